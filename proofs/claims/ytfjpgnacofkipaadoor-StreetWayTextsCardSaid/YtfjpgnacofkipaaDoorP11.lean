/- Contracts of functions for this claim: lemmas alone. -/
import Derived.Test.YtfjpgnacofkipaaDoorP9
import Derived.Test.YtfjpgnacofkipaaDoorLf
set_option linter.unusedSimpArgs false
set_option linter.unusedVariables false
namespace Go.Proofs.YtfjpgnacofkipaaDoor
open Go Go.Fi

def roadR (n : Net) (i : Nat) : Int × Int := match fRoad n i with
  | some r => (r.2.1, r.2.2)
  | none => (0, 0)
theorem roadR_err {n : Net} {i : Nat} {c : Int} (h : errR n i = c) (hc : c ≠ 0) : roadR n i = (0, c) := by
  unfold roadR fRoad
  rw [if_neg (by rw [h]; exact hc), h]
theorem any_end {α : Type} (p : α → Bool) (l : List α) (i : Nat) : ((l.take i).drop i).any p = false := by
  rw [List.drop_eq_nil_of_le (by simp; omega)]; rfl
theorem any_step {α : Type} [Inhabited α] (p : α → Bool) (l : List α) (i k : Nat) (h : k < i) (hi : i ≤ l.length) : ((l.take i).drop k).any p = (p (nth l k) || ((l.take i).drop (k + 1)).any p) := by
  have hk : k < (l.take i).length := by simp; omega
  rw [List.drop_eq_getElem_cons hk, List.any_cons]
  congr 2
  simp only [List.getElem_take]
  simp [nth, List.getD_eq_getElem?_getD, List.getElem?_eq_getElem (show k < l.length by omega)]
theorem pointE_split (l : List Pt) (k : Nat) : pointE l k = if (winB (nth l k).at_ 0 86399 && winB (nth l k).lo 0 7200 && winB (nth l k).hi 0 7200) = true then (if (nth l k).lo ≤ (nth l k).hi ∧ (k = 0 ∨ (nth l (k - 1)).at_ < (nth l k).at_) then 0 else 9) else 2 := by
  have e : (decide ((nth l k).lo ≤ (nth l k).hi) && (decide (k = 0) || decide ((nth l (k - 1)).at_ < (nth l k).at_))) = decide ((nth l k).lo ≤ (nth l k).hi ∧ (k = 0 ∨ (nth l (k - 1)).at_ < (nth l k).at_)) := by simp
  unfold pointE
  rw [e]
  cases (winB (nth l k).at_ 0 86399 && winB (nth l k).lo 0 7200 && winB (nth l k).hi 0 7200) with
  | false => rfl
  | true =>
    by_cases h : (nth l k).lo ≤ (nth l k).hi ∧ (k = 0 ∨ (nth l (k - 1)).at_ < (nth l k).at_)
    · rw [decide_eq_true h]; simp [firstS, errUnless, h]
    · rw [decide_eq_false h]; simp only [if_true, if_neg h]; rfl
/-- the two ways to say how much later the next point is -/
theorem ord_mod {l : List Pt} (hl : PtsOk l) (hi : PtsInc l) {k : Nat} (hk : k < l.length) :
    (decide ((nth l ((k + 1) % l.length)).lo < (nth l k).lo - ((nth l ((k + 1) % l.length)).at_ - (nth l k).at_) % 86400) || decide ((nth l ((k + 1) % l.length)).hi < (nth l k).hi - ((nth l ((k + 1) % l.length)).at_ - (nth l k).at_) % 86400)) = !inOrderB l k := by
  have hj : (k + 1) % l.length < l.length := Nat.mod_lt _ hl.pos
  have b1 := hl.at_ k hk
  have b2 := hl.at_ _ hj
  have s1 := hi.small k hk
  have s2 := hi.small _ hj
  have hlt1 : k < (k + 1) % l.length → (nth l k).at_ < (nth l ((k + 1) % l.length)).at_ := fun h => hi.lt h hj
  have hlt2 : (k + 1) % l.length < k → (nth l ((k + 1) % l.length)).at_ < (nth l k).at_ := fun h => hi.lt h hk
  unfold inOrderB gapS
  by_cases he : (k + 1) % l.length = k
  · rw [he] at *
    simp only [Int.sub_self]
    rw [if_pos (by omega)]
    simp only [show (0 : Int) % 86400 = 0 from rfl]
    have e1 : decide ((nth l k).lo < (nth l k).lo - 0) = false := decide_eq_false (by omega)
    have e2 : decide ((nth l k).hi < (nth l k).hi - 0) = false := decide_eq_false (by omega)
    have e3 : decide ((nth l k).lo - (0 + 86400) ≤ (nth l k).lo) = true := decide_eq_true (by omega)
    have e4 : decide ((nth l k).hi - (0 + 86400) ≤ (nth l k).hi) = true := decide_eq_true (by omega)
    rw [e1, e2, e3, e4]; rfl
  · generalize (k + 1) % l.length = j at *
    have hd : ((nth l j).at_ - (nth l k).at_) % 86400 = if (nth l j).at_ - (nth l k).at_ ≤ 0 then (nth l j).at_ - (nth l k).at_ + 86400 else (nth l j).at_ - (nth l k).at_ := by
      have hne : (nth l j).at_ ≠ (nth l k).at_ := by
        rcases Nat.lt_trichotomy k j with h | h | h
        · have := hlt1 h; omega
        · omega
        · have := hlt2 h; omega
      split <;> omega
    rw [hd]
    generalize (if (nth l j).at_ - (nth l k).at_ ≤ 0 then (nth l j).at_ - (nth l k).at_ + 86400 else (nth l j).at_ - (nth l k).at_) = g
    rw [Bool.not_and]
    congr 1
    · by_cases h : (nth l j).lo < (nth l k).lo - g
      · rw [decide_eq_true h, decide_eq_false (by omega)]; rfl
      · rw [decide_eq_false h, decide_eq_true (by omega)]; rfl
    · by_cases h : (nth l j).hi < (nth l k).hi - g
      · rw [decide_eq_true h, decide_eq_false (by omega)]; rfl
      · rw [decide_eq_false h, decide_eq_true (by omega)]; rfl

def dupB (l : List Road) (i : Nat) (nm : ByteArray) : Bool := (l.take i).any fun x => decide (x.name = nm)
set_option maxHeartbeats 4000000 in
theorem rRoadE_c (n : Net) (h : NetIn n) (i : Nat) (hi : i < n.roads.length) : RealCall Tryd.prog 54 [aNet n, .int .i64 i] (.tup [.int .i64 (roadR n i).1, .int .i64 (roadR n i).2]) true := by
  have hnp := h.np
  have hnr := h.nr
  have cn := rIsName_c _ (h.rs i hi)
  have hpl := h.rp i hi
  have cf := fun k => rIsPlace_c n k hnp
  have her : errR n i = firstS [errUnless (nameB (nth n.roads i).name) 4, errUnless (!dupB n.roads i (nth n.roads i).name) 5,
          errUnless (winB (nth n.roads i).frm 0 (n.places.length - 1) && winB (nth n.roads i).to 0 (n.places.length - 1)) 6, errUnless (!decide ((nth n.roads i).frm = (nth n.roads i).to)) 26, errUnless (winB (nth n.roads i).metres 0 100000) 2, errUnless (decide (0 < (nth n.roads i).pts.length)) 10, errUnless (decide (((nth n.roads i).pts.length : Int) ≤ 8)) 8] := rfl
  have hfr : fRoad n i = if errR n i = 0 then orE (scan (fPt (nth n.roads i).pts i) (nth n.roads i).pts.length 0) (scan (fOrd (nth n.roads i).pts i) (nth n.roads i).pts.length 0) else some (i, 0, errR n i) := rfl
  have hRe := fun c => roadR_err (n := n) (i := i) (c := c)
  have hRf : roadR n i = match fRoad n i with | some r => (r.2.1, r.2.2) | none => (0, 0) := rfl
  have kk := keep (And.intro her (And.intro hfr (And.intro hRe hRf)))
  clear her hfr hRe hRf
  generalize roadR n i = R at *
  generalize hr : nth n.roads i = r at *
  have kk2 := keep kk
  clear kk
  unfold aNet cNet at *
  refine realcall_intro Tryd.func54 (by kernel_rfl) rfl (Nat.le_of_ble_eq_true (by kernel_rfl)) ?_
  simp only [Tryd.results54, Tryd.ntmps54]
  repeat' (first | (with_reducible first | refine awp_seq ?_ | refine awp_blockS ?_ | refine awp_blockC ?_ | refine awp_blockR ?_ | refine awp_skip ?_ | refine awp_ret ?_ | refine awp_exit ?_ | refine awp_region ?_ | refine awp_regionD (id := 7) 9 mixed (by decide +kernel) ?_ | refine awp_regionD (id := 25) 23 mixed (by decide +kernel) ?_ | refine awp_regionS (id := 30) [0, 1, 2, 3, 4, 5, 6, 7, 8, 9, 10, 11, 12, 13, 14, 15, 16] [17, 18] [[], [], [], [], [], [.new 0], [.new 0], [.new 0], [.new 0], [.new 0], [.new 0], [.new 0], [.new 0], [.new 0], [.new 0], [], []] [[.new 0], [.new 1]] mixed (by decide +kernel) ?_ | refine awp_condM ?_ | refine And.intro ?_ ?_ | refine gE_splitN ?_ ?_ | refine gE_split ?_ ?_ | refine gQ_splitN ?_ ?_ | refine gQ_split ?_ ?_ | refine gM_splitN ?_ ?_ | refine gM_split ?_ ?_ | refine condM_splitDN ?_ ?_ | refine condM_splitD ?_ ?_ | refine condM_splitN ?_ ?_ | refine condM_split ?_ ?_ | refine condM_any ?_ ?_ | refine cw (cn) ?_ | intro _) | (simp [*, hi, hr, cRoad]))
  all_goals first
    | omega
    | (obtain ⟨her, hfr, hRe, hRf⟩ := kk2; rw [hRe 4 ?_ (by decide)]; rw [her]; simp [firstS, errUnless, *]; done)
    | skip
  rename_i g1
  refine awp_for3 (fun (k : Nat) => k ≤ i ∧ ((n.roads.take i).drop k).any (fun x => decide (x.name = r.name)) = dupB n.roads i r.name) [1, 2, 6] (fun (k : Nat) => [(7, .w false false (.int .i64 k))]) [1, 0] (fun (k : Nat) => []) (fun (k : Nat) => i - k) (fun (_u : Unit) => dupB n.roads i r.name = false) [2, 6] (fun (_u : Unit) => []) [1, 0] (fun (_u : Unit) => []) (0) ⟨Nat.zero_le _, rfl⟩ (by simp) (by simp) (fun k hk => ?_) (fun _u hf => ?_)
  · obtain ⟨hk, hj⟩ := hk
    by_cases hlt : k < i
    · have hkn : k < n.roads.length := by omega
      rw [any_step _ _ _ _ hlt (by omega)] at hj
      have kj := keep hj
      clear hj
      repeat' (first | (with_reducible first | refine awp_seq ?_ | refine awp_blockS ?_ | refine awp_blockC ?_ | refine awp_blockR ?_ | refine awp_skip ?_ | refine awp_ret ?_ | refine awp_exit ?_ | refine awp_region ?_ | refine awp_regionD (id := 7) 9 mixed (by decide +kernel) ?_ | refine awp_regionD (id := 25) 23 mixed (by decide +kernel) ?_ | refine awp_regionS (id := 30) [0, 1, 2, 3, 4, 5, 6, 7, 8, 9, 10, 11, 12, 13, 14, 15, 16] [17, 18] [[], [], [], [], [], [.new 0], [.new 0], [.new 0], [.new 0], [.new 0], [.new 0], [.new 0], [.new 0], [.new 0], [.new 0], [], []] [[.new 0], [.new 1]] mixed (by decide +kernel) ?_ | refine awp_condM ?_ | refine And.intro ?_ ?_ | refine gE_splitN ?_ ?_ | refine gE_split ?_ ?_ | refine gQ_splitN ?_ ?_ | refine gQ_split ?_ ?_ | refine gM_splitN ?_ ?_ | refine gM_split ?_ ?_ | refine condM_splitDN ?_ ?_ | refine condM_splitD ?_ ?_ | refine condM_splitN ?_ ?_ | refine condM_split ?_ ?_ | refine condM_any ?_ ?_ | intro _) | (simp [*, hlt, hkn]))
      all_goals first
        | exact inI64 (by omega) (by omega)
        | omega
        | (rename_i h1; obtain ⟨her, hfr, hRe, hRf⟩ := kk2
           have ha : dupB n.roads i r.name = true := kj.symm.trans (by rw [decide_eq_true h1]; rfl)
           rw [hRe 5 ?_ (by decide)]; rw [her, ha]; simp [firstS, errUnless, g1]; done)
        | (rename_i h1; (refine loopK_normal _ _ _ _ _ (k + 1) _ ?_ (by first | omega | (dsimp only; omega) | (simp; omega)) ?_; (· refine ⟨by omega, ?_⟩; rw [← kj, decide_eq_false h1]; rfl); (refine le_of ?_ ?_ <;> first | trivial | (simp [*]; done))))
    · repeat' (first | (with_reducible first | refine awp_seq ?_ | refine awp_blockS ?_ | refine awp_blockC ?_ | refine awp_blockR ?_ | refine awp_skip ?_ | refine awp_ret ?_ | refine awp_exit ?_ | refine awp_region ?_ | refine awp_regionD (id := 7) 9 mixed (by decide +kernel) ?_ | refine awp_regionD (id := 25) 23 mixed (by decide +kernel) ?_ | refine awp_regionS (id := 30) [0, 1, 2, 3, 4, 5, 6, 7, 8, 9, 10, 11, 12, 13, 14, 15, 16] [17, 18] [[], [], [], [], [], [.new 0], [.new 0], [.new 0], [.new 0], [.new 0], [.new 0], [.new 0], [.new 0], [.new 0], [.new 0], [], []] [[.new 0], [.new 1]] mixed (by decide +kernel) ?_ | refine awp_condM ?_ | refine And.intro ?_ ?_ | refine gE_splitN ?_ ?_ | refine gE_split ?_ ?_ | refine gQ_splitN ?_ ?_ | refine gQ_split ?_ ?_ | refine gM_splitN ?_ ?_ | refine gM_split ?_ ?_ | refine condM_splitDN ?_ ?_ | refine condM_splitD ?_ ?_ | refine condM_splitN ?_ ?_ | refine condM_split ?_ ?_ | refine condM_any ?_ ?_ | intro _) | (simp [*, hlt]))
      all_goals (refine finW_intro () ?_ ?_; (· rw [← hj, show k = i by omega, any_end]); (refine le_of ?_ ?_ <;> first | trivial | (simp [*]; done)))
  · have g2 := keep hf
    clear hf
    repeat' (first | (with_reducible first | refine awp_seq ?_ | refine awp_blockS ?_ | refine awp_blockC ?_ | refine awp_blockR ?_ | refine awp_skip ?_ | refine awp_ret ?_ | refine awp_exit ?_ | refine awp_region ?_ | refine awp_regionD (id := 7) 9 mixed (by decide +kernel) ?_ | refine awp_regionD (id := 25) 23 mixed (by decide +kernel) ?_ | refine awp_regionS (id := 30) [0, 1, 2, 3, 4, 5, 6, 7, 8, 9, 10, 11, 12, 13, 14, 15, 16] [17, 18] [[], [], [], [], [], [.new 0], [.new 0], [.new 0], [.new 0], [.new 0], [.new 0], [.new 0], [.new 0], [.new 0], [.new 0], [], []] [[.new 0], [.new 1]] mixed (by decide +kernel) ?_ | refine awp_condM ?_ | refine And.intro ?_ ?_ | refine gE_splitN ?_ ?_ | refine gE_split ?_ ?_ | refine gQ_splitN ?_ ?_ | refine gQ_split ?_ ?_ | refine gM_splitN ?_ ?_ | refine gM_split ?_ ?_ | refine condM_splitDN ?_ ?_ | refine condM_splitD ?_ ?_ | refine condM_splitN ?_ ?_ | refine condM_split ?_ ?_ | refine condM_any ?_ ?_ | refine cw (cf _) ?_ | refine cw (rWithin_c _ _ _) ?_ | intro _) | (simp [*]))
    all_goals first
      | omega
      | (obtain ⟨her, hfr, hRe, hRf⟩ := kk2; rw [hRe 6 ?_ (by decide)]; rw [her, g2]; simp [firstS, errUnless, *]; done)
      | (obtain ⟨her, hfr, hRe, hRf⟩ := kk2; rw [hRe 26 ?_ (by decide)]; rw [her, g2]; simp [firstS, errUnless, *]; done)
      | (obtain ⟨her, hfr, hRe, hRf⟩ := kk2; rw [hRe 2 ?_ (by decide)]; rw [her, g2]; simp [firstS, errUnless, *]; done)
      | (obtain ⟨her, hfr, hRe, hRf⟩ := kk2; rw [hRe 10 ?_ (by decide)]; rw [her, g2]; simp [firstS, errUnless, *]; done)
      | (obtain ⟨her, hfr, hRe, hRf⟩ := kk2; rw [hRe 8 ?_ (by decide)]; rw [her, g2]; simp [firstS, errUnless, *]; done)
      | skip
    rename_i q1 q2 q3 q4 q5 q6
    obtain ⟨her, hfr, hRe, hRf⟩ := kk2
    have he0 : errR n i = 0 := by rw [her, g2]; simp [firstS, errUnless, *]
    rw [if_pos he0] at hfr
    rw [hfr] at hRf
    have hpos : 0 < r.pts.length := by
      rcases Nat.eq_zero_or_pos r.pts.length with h0 | h0
      · exact absurd (List.eq_nil_of_length_eq_zero h0) (by simpa using q5)
      · exact h0
    have kR := keep hRf
    clear hRf hfr her hRe he0 cn cf g1 g2 q1 q2 q3 q4 q5 q6
    refine awp_for3 (fun (k : Nat) => k ≤ r.pts.length ∧ scan (fPt r.pts i) (r.pts.length - k) k = scan (fPt r.pts i) r.pts.length 0) [6] (fun (k : Nat) => [(8, .w false false (.int .i64 k))]) [1] (fun (k : Nat) => []) (fun (k : Nat) => r.pts.length - k) (fun (_u : Unit) => scan (fPt r.pts i) r.pts.length 0 = none) [6] (fun (_u : Unit) => []) [1] (fun (_u : Unit) => []) (0) ⟨Nat.zero_le _, rfl⟩ (by simp) (by simp) (fun k hk => ?_) (fun _u hf => ?_)
    · obtain ⟨hk, hj⟩ := hk
      by_cases hlt : k < r.pts.length
      · have hk1 : ((k : Int) - 1).toNat = k - 1 := by omega
        have hkm : k - 1 < r.pts.length := by omega
        have hsp := pointE_split r.pts k
        have hhit : ∀ c, pointE r.pts k = c → c ≠ 0 → R = ((k : Int), c) := fun c hc hc0 => by
          rw [kR, ← hj, scan_hit hlt (show fPt r.pts i k = some ((i : Int), (k : Int), c) by rw [← hc]; exact if_neg (by rw [hc]; exact hc0))]; rfl
        have hmiss : pointE r.pts k = 0 → scan (fPt r.pts i) (r.pts.length - (k + 1)) (k + 1) = scan (fPt r.pts i) r.pts.length 0 := fun hc => by
          rw [← hj, scan_miss hlt (if_pos hc)]
        have kk := keep (And.intro hsp (And.intro hhit hmiss))
        clear hsp hhit hmiss hj
        repeat' (first | (with_reducible first | refine awp_seq ?_ | refine awp_blockS ?_ | refine awp_blockC ?_ | refine awp_blockR ?_ | refine awp_skip ?_ | refine awp_ret ?_ | refine awp_exit ?_ | refine awp_region ?_ | refine awp_regionD (id := 7) 9 mixed (by decide +kernel) ?_ | refine awp_regionD (id := 25) 23 mixed (by decide +kernel) ?_ | refine awp_regionS (id := 30) [0, 1, 2, 3, 4, 5, 6, 7, 8, 9, 10, 11, 12, 13, 14, 15, 16] [17, 18] [[], [], [], [], [], [.new 0], [.new 0], [.new 0], [.new 0], [.new 0], [.new 0], [.new 0], [.new 0], [.new 0], [.new 0], [], []] [[.new 0], [.new 1]] mixed (by decide +kernel) ?_ | refine awp_condM ?_ | refine And.intro ?_ ?_ | refine gE_splitDN ?_ ?_ | refine gE_splitD ?_ ?_ | refine gQ_splitDN ?_ ?_ | refine gQ_splitD ?_ ?_ | refine gM_splitDN ?_ ?_ | refine gM_splitD ?_ ?_ | refine gE_splitN ?_ ?_ | refine gE_split ?_ ?_ | refine gQ_splitN ?_ ?_ | refine gQ_split ?_ ?_ | refine gM_splitN ?_ ?_ | refine gM_split ?_ ?_ | refine condM_splitDN ?_ ?_ | refine condM_splitD ?_ ?_ | refine condM_splitN ?_ ?_ | refine condM_split ?_ ?_ | refine condM_any ?_ ?_ | refine cw (rWithin_c _ _ _) ?_ | intro _) | (simp [*, hlt, hk1, hkm]))
        all_goals first
          | exact inI64 (by omega) (by omega)
          | omega
          | (obtain ⟨hsp, hhit, hmiss⟩ := kk; rw [hhit 2 ?_ (by decide)]; rw [hsp]; simp [*]; done)
          | (obtain ⟨hsp, hhit, hmiss⟩ := kk; rw [hhit 9 ?_ (by decide)]; rw [hsp]; simp only [*, Bool.and_true, Bool.true_and, if_true]; split <;> omega)
          | (obtain ⟨hsp, hhit, hmiss⟩ := kk; (refine loopK_normal _ _ _ _ _ (k + 1) _ ?_ (by first | omega | (dsimp only; omega) | (simp; omega)) ?_; (· refine ⟨by omega, hmiss ?_⟩; rw [hsp]; simp only [*, Bool.and_true, Bool.true_and, if_true]; split <;> omega); (refine le_of ?_ ?_ <;> first | trivial | (simp [*]; done))))
          | skip
      · repeat' (first | (with_reducible first | refine awp_seq ?_ | refine awp_blockS ?_ | refine awp_blockC ?_ | refine awp_blockR ?_ | refine awp_skip ?_ | refine awp_ret ?_ | refine awp_exit ?_ | refine awp_region ?_ | refine awp_regionD (id := 7) 9 mixed (by decide +kernel) ?_ | refine awp_regionD (id := 25) 23 mixed (by decide +kernel) ?_ | refine awp_regionS (id := 30) [0, 1, 2, 3, 4, 5, 6, 7, 8, 9, 10, 11, 12, 13, 14, 15, 16] [17, 18] [[], [], [], [], [], [.new 0], [.new 0], [.new 0], [.new 0], [.new 0], [.new 0], [.new 0], [.new 0], [.new 0], [.new 0], [], []] [[.new 0], [.new 1]] mixed (by decide +kernel) ?_ | refine awp_condM ?_ | refine And.intro ?_ ?_ | refine gE_splitN ?_ ?_ | refine gE_split ?_ ?_ | refine gQ_splitN ?_ ?_ | refine gQ_split ?_ ?_ | refine gM_splitN ?_ ?_ | refine gM_split ?_ ?_ | refine condM_splitDN ?_ ?_ | refine condM_splitD ?_ ?_ | refine condM_splitN ?_ ?_ | refine condM_split ?_ ?_ | refine condM_any ?_ ?_ | intro _) | (simp [*, hlt]))
        all_goals (refine finW_intro () ?_ ?_; (· rw [← hj, scan_end _ (by omega)]); (refine le_of ?_ ?_ <;> first | trivial | (simp [*]; done)))
    · have pk := pts_ok hpos hpl hf
      have pc := pts_inc hf
      have kR : Keep (R = match scan (fOrd r.pts i) r.pts.length 0 with | some r => (r.2.1, r.2.2) | none => (0, 0)) := by rw [hf] at kR; exact kR
      clear hf
      repeat' (first | (with_reducible first | refine awp_seq ?_ | refine awp_blockS ?_ | refine awp_blockC ?_ | refine awp_blockR ?_ | refine awp_skip ?_ | refine awp_ret ?_ | refine awp_exit ?_ | refine awp_region ?_ | refine awp_regionD (id := 7) 9 mixed (by decide +kernel) ?_ | refine awp_regionD (id := 25) 23 mixed (by decide +kernel) ?_ | refine awp_regionS (id := 30) [0, 1, 2, 3, 4, 5, 6, 7, 8, 9, 10, 11, 12, 13, 14, 15, 16] [17, 18] [[], [], [], [], [], [.new 0], [.new 0], [.new 0], [.new 0], [.new 0], [.new 0], [.new 0], [.new 0], [.new 0], [.new 0], [], []] [[.new 0], [.new 1]] mixed (by decide +kernel) ?_ | refine awp_condM ?_ | refine And.intro ?_ ?_ | refine gE_splitN ?_ ?_ | refine gE_split ?_ ?_ | refine gQ_splitN ?_ ?_ | refine gQ_split ?_ ?_ | refine gM_splitN ?_ ?_ | refine gM_split ?_ ?_ | refine condM_splitDN ?_ ?_ | refine condM_splitD ?_ ?_ | refine condM_splitN ?_ ?_ | refine condM_split ?_ ?_ | refine condM_any ?_ ?_ | intro _) | (simp [*]))
      refine awp_for3 (fun (k : Nat) => k ≤ r.pts.length ∧ scan (fOrd r.pts i) (r.pts.length - k) k = scan (fOrd r.pts i) r.pts.length 0) [6] (fun (k : Nat) => [(10, .w false false (.int .i64 k))]) [1] (fun (k : Nat) => []) (fun (k : Nat) => r.pts.length - k) (fun (_u : Unit) => scan (fOrd r.pts i) r.pts.length 0 = none) [] (fun (_u : Unit) => []) [1] (fun (_u : Unit) => []) (0) ⟨Nat.zero_le _, rfl⟩ (by simp) (by simp) (fun k hk => ?_) (fun _u hf => ?_)
      · obtain ⟨hk, hj⟩ := hk
        by_cases hlt : k < r.pts.length
        · have htm : ((k : Int) + 1).tmod r.pts.length = (((k + 1) % r.pts.length : Nat) : Int) := by
            rw [Int.tmod_eq_emod_of_nonneg (by omega)]; simp
          have hom := ord_mod pk pc hlt
          have hj2 : (k + 1) % r.pts.length < r.pts.length := Nat.mod_lt _ hpos
          have b1 := pk.at_ _ hlt
          have b2 := pk.at_ _ hj2
          have v1 := pk.val _ hlt
          have v2 := pk.val _ hj2
          have hne : r.pts ≠ [] := by rintro h0; rw [h0] at hpos; simp at hpos
          generalize (k + 1) % r.pts.length = j at *
          have cd := rMod_c ((nth r.pts j).at_ - (nth r.pts k).at_) 86400 (by decide) (by decide)
          have hd0 : 0 ≤ ((nth r.pts j).at_ - (nth r.pts k).at_) % 86400 ∧ ((nth r.pts j).at_ - (nth r.pts k).at_) % 86400 < 86400 := by omega
          generalize ((nth r.pts j).at_ - (nth r.pts k).at_) % 86400 = d at *
          have hhit : inOrderB r.pts k = false → R = ((k : Int), 23) := fun hc => by
            rw [kR, ← hj, scan_hit hlt (show fOrd r.pts i k = some ((i : Int), (k : Int), 23) by unfold fOrd; rw [hc]; rfl)]
          have hmiss : inOrderB r.pts k = true → scan (fOrd r.pts i) (r.pts.length - (k + 1)) (k + 1) = scan (fOrd r.pts i) r.pts.length 0 := fun hc => by
            rw [← hj, scan_miss hlt (show fOrd r.pts i k = none by unfold fOrd; rw [hc]; rfl)]
          have kk := keep (And.intro hom (And.intro hhit hmiss))
          clear hom hhit hmiss hj pk pc
          repeat' (first | (with_reducible first | refine awp_seq ?_ | refine awp_blockS ?_ | refine awp_blockC ?_ | refine awp_blockR ?_ | refine awp_skip ?_ | refine awp_ret ?_ | refine awp_exit ?_ | refine awp_region ?_ | refine awp_regionD (id := 7) 9 mixed (by decide +kernel) ?_ | refine awp_regionD (id := 25) 23 mixed (by decide +kernel) ?_ | refine awp_regionS (id := 30) [0, 1, 2, 3, 4, 5, 6, 7, 8, 9, 10, 11, 12, 13, 14, 15, 16] [17, 18] [[], [], [], [], [], [.new 0], [.new 0], [.new 0], [.new 0], [.new 0], [.new 0], [.new 0], [.new 0], [.new 0], [.new 0], [], []] [[.new 0], [.new 1]] mixed (by decide +kernel) ?_ | refine awp_condM ?_ | refine And.intro ?_ ?_ | refine gE_splitDN ?_ ?_ | refine gE_splitD ?_ ?_ | refine gQ_splitDN ?_ ?_ | refine gQ_splitD ?_ ?_ | refine gM_splitDN ?_ ?_ | refine gM_splitD ?_ ?_ | refine gE_splitN ?_ ?_ | refine gE_split ?_ ?_ | refine gQ_splitN ?_ ?_ | refine gQ_split ?_ ?_ | refine gM_splitN ?_ ?_ | refine gM_split ?_ ?_ | refine condM_splitDN ?_ ?_ | refine condM_splitD ?_ ?_ | refine condM_splitN ?_ ?_ | refine condM_split ?_ ?_ | refine condM_any ?_ ?_ | refine cw (cd) ?_ | intro _) | (simp [*, hlt, htm, hj2]))
          all_goals first
            | exact inI64 (by omega) (by omega)
            | omega
            | (obtain ⟨hom, hhit, hmiss⟩ := kk; rw [hhit ?_]; simp [*] at hom; first | done | (simp [hom]; done))
            | (obtain ⟨hom, hhit, hmiss⟩ := kk; (refine loopK_normal _ _ _ _ _ (k + 1) _ ?_ (by first | omega | (dsimp only; omega) | (simp; omega)) ?_; (· refine ⟨by omega, hmiss ?_⟩; simp [*] at hom; first | done | (simp [hom]; done)); (refine le_of ?_ ?_ <;> first | trivial | (simp [*]; done))))
            | skip
        · repeat' (first | (with_reducible first | refine awp_seq ?_ | refine awp_blockS ?_ | refine awp_blockC ?_ | refine awp_blockR ?_ | refine awp_skip ?_ | refine awp_ret ?_ | refine awp_exit ?_ | refine awp_region ?_ | refine awp_regionD (id := 7) 9 mixed (by decide +kernel) ?_ | refine awp_regionD (id := 25) 23 mixed (by decide +kernel) ?_ | refine awp_regionS (id := 30) [0, 1, 2, 3, 4, 5, 6, 7, 8, 9, 10, 11, 12, 13, 14, 15, 16] [17, 18] [[], [], [], [], [], [.new 0], [.new 0], [.new 0], [.new 0], [.new 0], [.new 0], [.new 0], [.new 0], [.new 0], [.new 0], [], []] [[.new 0], [.new 1]] mixed (by decide +kernel) ?_ | refine awp_condM ?_ | refine And.intro ?_ ?_ | refine gE_splitN ?_ ?_ | refine gE_split ?_ ?_ | refine gQ_splitN ?_ ?_ | refine gQ_split ?_ ?_ | refine gM_splitN ?_ ?_ | refine gM_split ?_ ?_ | refine condM_splitDN ?_ ?_ | refine condM_splitD ?_ ?_ | refine condM_splitN ?_ ?_ | refine condM_split ?_ ?_ | refine condM_any ?_ ?_ | intro _) | (simp [*, hlt]))
          all_goals (refine finW_intro () ?_ ?_; (· rw [← hj, scan_end _ (by omega)]); (refine le_of ?_ ?_ <;> first | trivial | (simp [*]; done)))
      · repeat' (first | (with_reducible first | refine awp_seq ?_ | refine awp_blockS ?_ | refine awp_blockC ?_ | refine awp_blockR ?_ | refine awp_skip ?_ | refine awp_ret ?_ | refine awp_exit ?_ | refine awp_region ?_ | refine awp_regionD (id := 7) 9 mixed (by decide +kernel) ?_ | refine awp_regionD (id := 25) 23 mixed (by decide +kernel) ?_ | refine awp_regionS (id := 30) [0, 1, 2, 3, 4, 5, 6, 7, 8, 9, 10, 11, 12, 13, 14, 15, 16] [17, 18] [[], [], [], [], [], [.new 0], [.new 0], [.new 0], [.new 0], [.new 0], [.new 0], [.new 0], [.new 0], [.new 0], [.new 0], [], []] [[.new 0], [.new 1]] mixed (by decide +kernel) ?_ | refine awp_condM ?_ | refine And.intro ?_ ?_ | refine gE_splitN ?_ ?_ | refine gE_split ?_ ?_ | refine gQ_splitN ?_ ?_ | refine gQ_split ?_ ?_ | refine gM_splitN ?_ ?_ | refine gM_split ?_ ?_ | refine condM_splitDN ?_ ?_ | refine condM_splitD ?_ ?_ | refine condM_splitN ?_ ?_ | refine condM_split ?_ ?_ | refine condM_any ?_ ?_ | intro _) | (simp [*]))
        all_goals (rw [keep_def] at kR; rw [kR, hf])
end Go.Proofs.YtfjpgnacofkipaaDoor
namespace Go.Proofs.YtfjpgnacofkipaaDoor
open Go Go.Fi

@[simp] theorem strs_flat : ∀ l : List ByteArray, flatL (strs l) = true
  | [] => rfl
  | x :: r => by have := strs_flat r; simpa [strs, flatL, flat] using this
@[simp] theorem strs_one (l : List ByteArray) : (strs l).all oneP = true := by simp [strs, oneP]
theorem copyTexts_c (l : List ByteArray) (h : l.length < 1000000) : RealCall Tryd.prog 23 [.sl l.length (strs l)] (.sl l.length (strs l)) true := by
  refine realcall_intro Tryd.func23 (by kernel_rfl) rfl (Nat.le_of_ble_eq_true (by kernel_rfl)) ?_
  simp only [Tryd.results23, Tryd.ntmps23]
  repeat' (first | (with_reducible first | refine awp_seq ?_ | refine awp_blockS ?_ | refine awp_blockC ?_ | refine awp_blockR ?_ | refine awp_skip ?_ | refine awp_ret ?_ | refine awp_exit ?_ | refine awp_region ?_ | refine awp_condM ?_ | refine And.intro ?_ ?_ | refine gE_splitN ?_ ?_ | refine gE_split ?_ ?_ | refine gQ_splitN ?_ ?_ | refine gQ_split ?_ ?_ | refine gM_splitN ?_ ?_ | refine gM_split ?_ ?_ | refine condM_splitDN ?_ ?_ | refine condM_splitD ?_ ?_ | refine condM_splitN ?_ ?_ | refine condM_split ?_ ?_ | refine condM_any ?_ ?_ | intro _) | (simp [*]))
  all_goals omega

theorem rHasText_take (l : List ByteArray) (k : Nat) (hl : l.length < 1000) (hk : k ≤ l.length) (s : ByteArray) : RealCall Tryd.prog 32 [.sl k ((strs l).take k), .str s] (.bool ((l.take k).any fun x => decide (s = x))) true := by
  have h := rHasText_c (l.take k) s (by simp; omega)
  rw [List.length_take, Nat.min_eq_left hk] at h
  have e : (strs l).take k = strs (l.take k) := by simp [strs]
  have e2 : (fun x => decide (x = s)) = fun x => decide (s = x) := by funext x; exact decide_eq_decide.2 eq_comm
  rw [e, ← e2]; exact h
def dupP (l : List ByteArray) (k : Nat) : Bool := (l.take k).any fun x => decide (nth l k = x)
theorem errP_split (n : Net) (k : Nat) : errP n k = if nameB (nth n.places k) = true then (if dupP n.places k = true then 5 else 0) else 4 := by
  show firstS [errUnless (nameB (nth n.places k)) 4, errUnless (!dupP n.places k) 5] = _
  cases nameB (nth n.places k) <;> cases dupP n.places k <;> rfl
theorem fRoad_fst {n : Net} {k : Nat} {r : Tri} (h : fRoad n k = some r) : r.1 = k := by
  unfold fRoad at h
  split at h
  · unfold orE at h
    split at h
    · rename_i hs
      injection h with h; subst h
      obtain ⟨j, _, _, hj⟩ := scan_some hs
      unfold fPt at hj; split at hj
      · cases hj
      · injection hj with hj; rw [← hj]
    · obtain ⟨j, _, _, hj⟩ := scan_some h
      unfold fOrd at hj; split at hj
      · cases hj
      · injection hj with hj; rw [← hj]
  · injection h with h; rw [← h]
theorem roadR_some {n : Net} {k : Nat} (h : (roadR n k).2 ≠ 0) : fRoad n k = some ((k : Int), (roadR n k).1, (roadR n k).2) := by
  unfold roadR at h ⊢
  cases hf : fRoad n k with
  | none => rw [hf] at h; exact absurd rfl h
  | some r =>
    have := fRoad_fst hf
    obtain ⟨a, b, c⟩ := r
    simp only at this
    subst this; rfl
theorem roadR_none {n : Net} {k : Nat} (h : (roadR n k).2 = 0) : fRoad n k = none := by
  unfold roadR at h
  cases hf : fRoad n k with
  | none => rfl
  | some r =>
    rw [hf] at h
    exact absurd h (fRoad_ne hf)
theorem net_e0 {n : Net} (h : n.places = []) : netS n = (0, 0, 10) := by
  simp [netS, netE, h, firstS, errUnless]
theorem net_e20 {n : Net} (h : 20 < (n.places.length : Int)) : netS n = (0, 0, 8) := by
  have h1 : decide (0 < n.places.length) = true := decide_eq_true (by omega)
  have h2 : decide ((n.places.length : Int) ≤ 20) = false := decide_eq_false (by omega)
  simp only [netS, netE, h1, h2]; rfl
theorem net_rest {n : Net} (h0 : n.places ≠ []) (h : ¬ 20 < (n.places.length : Int)) : netS n = fin (scan (fPlace n) n.places.length 0) (netB n) := by
  have h3 : 0 < n.places.length := List.length_pos_iff.2 h0
  have h1 : decide (0 < n.places.length) = true := decide_eq_true h3
  have h2 : decide ((n.places.length : Int) ≤ 20) = true := decide_eq_true (by omega)
  have h4 : netE n = 0 := by simp only [netE, h1, h2]; rfl
  exact if_pos h4

set_option maxHeartbeats 4000000 in
theorem rCheckNet_c (n : Net) (h : NetIn n) : RealCall Tryd.prog 30 [aNet n] (markP (netS n)) true := by
  have hnp := h.np
  have hnr := h.nr
  have cr := fun k (hk : k < n.roads.length) => rRoadE_c n h k hk
  unfold aNet cNet markP at *
  have kcr := keep cr
  clear cr
  refine realcall_intro Tryd.func30 (by kernel_rfl) rfl (Nat.le_of_ble_eq_true (by kernel_rfl)) ?_
  simp only [Tryd.results30, Tryd.ntmps30]
  repeat' (first | (with_reducible first | refine awp_seq ?_ | refine awp_blockS ?_ | refine awp_blockC ?_ | refine awp_blockR ?_ | refine awp_skip ?_ | refine awp_ret ?_ | refine awp_exit ?_ | refine awp_region ?_ | refine awp_regionD (id := 11) 10 mixed (by decide +kernel) ?_ | refine awp_condM ?_ | refine And.intro ?_ ?_ | refine gE_splitN ?_ ?_ | refine gE_split ?_ ?_ | refine gQ_splitN ?_ ?_ | refine gQ_split ?_ ?_ | refine gM_splitN ?_ ?_ | refine gM_split ?_ ?_ | refine condM_splitDN ?_ ?_ | refine condM_splitD ?_ ?_ | refine condM_splitN ?_ ?_ | refine condM_split ?_ ?_ | refine condM_any ?_ ?_ | intro _) | (simp [*]))
  all_goals first
    | (rename_i h0; rw [net_e0 h0]; done)
    | (rename_i h0; rw [net_e20 h0]; done)
    | skip
  rename_i h0 h1
  have hR := net_rest h0 h1
  generalize netS n = R at *
  have kR := keep hR
  clear hR
  refine awp_for3 (fun (k : Nat) => k ≤ n.places.length ∧ scan (fPlace n) (n.places.length - k) k = scan (fPlace n) n.places.length 0) [1, 2, 4] (fun (k : Nat) => [(5, .w false false (.int .i64 k))]) [2, 1, 0] (fun (k : Nat) => []) (fun (k : Nat) => n.places.length - k) (fun (_u : Unit) => scan (fPlace n) n.places.length 0 = none) [1, 2, 4] (fun (_u : Unit) => []) [2, 1, 0] (fun (_u : Unit) => []) (0) ⟨Nat.zero_le _, rfl⟩ (by simp) (by simp) (fun k hk => ?_) (fun _u hf => ?_)
  · obtain ⟨hk, hj⟩ := hk
    by_cases hlt : k < n.places.length
    · have cn := rIsName_c _ (h.ps k hlt)
      have cc : RealCall Tryd.prog 32 [.sl k ((strs n.places).take k), .str (nth n.places k)] (.bool (dupP n.places k)) true := rHasText_take n.places k hnp hk (nth n.places k)
      have hsp := errP_split n k
      have hhit : ∀ c, errP n k = c → c ≠ 0 → R = ((k : Int), 0, c) := fun c hc hc0 => by
        rw [kR, ← hj, scan_hit hlt (show fPlace n k = some ((k : Int), 0, c) by rw [← hc]; exact if_neg (by rw [hc]; exact hc0))]; rfl
      have hmiss : errP n k = 0 → scan (fPlace n) (n.places.length - (k + 1)) (k + 1) = scan (fPlace n) n.places.length 0 := fun hc => by
        rw [← hj, scan_miss hlt (if_pos hc)]
      have kk := keep (And.intro hsp (And.intro hhit hmiss))
      clear hsp hhit hmiss hj
      repeat' (first | (with_reducible first | refine awp_seq ?_ | refine awp_blockS ?_ | refine awp_blockC ?_ | refine awp_blockR ?_ | refine awp_skip ?_ | refine awp_ret ?_ | refine awp_exit ?_ | refine awp_region ?_ | refine awp_regionD (id := 11) 10 mixed (by decide +kernel) ?_ | refine awp_condM ?_ | refine And.intro ?_ ?_ | refine gE_splitN ?_ ?_ | refine gE_split ?_ ?_ | refine gQ_splitN ?_ ?_ | refine gQ_split ?_ ?_ | refine gM_splitN ?_ ?_ | refine gM_split ?_ ?_ | refine condM_splitDN ?_ ?_ | refine condM_splitD ?_ ?_ | refine condM_splitN ?_ ?_ | refine condM_split ?_ ?_ | refine condM_any ?_ ?_ | refine cw (cn) ?_ | refine cw (cc) ?_ | intro _) | (simp [*, hlt]))
      all_goals first
        | exact inI64 (by omega) (by omega)
        | omega
        | (obtain ⟨hsp, hhit, hmiss⟩ := kk; rw [hhit 4 ?_ (by decide)]; rw [hsp]; simp [*]; done)
        | (obtain ⟨hsp, hhit, hmiss⟩ := kk; rw [hhit 5 ?_ (by decide)]; rw [hsp]; simp [*]; done)
        | (obtain ⟨hsp, hhit, hmiss⟩ := kk; (refine loopK_normal _ _ _ _ _ (k + 1) _ ?_ (by first | omega | (dsimp only; omega) | (simp; omega)) ?_; (· refine ⟨by omega, hmiss ?_⟩; rw [hsp]; simp [*]; done); (refine le_of ?_ ?_ <;> first | trivial | (simp [*]; done))))
        | skip
    · repeat' (first | (with_reducible first | refine awp_seq ?_ | refine awp_blockS ?_ | refine awp_blockC ?_ | refine awp_blockR ?_ | refine awp_skip ?_ | refine awp_ret ?_ | refine awp_exit ?_ | refine awp_region ?_ | refine awp_regionD (id := 11) 10 mixed (by decide +kernel) ?_ | refine awp_condM ?_ | refine And.intro ?_ ?_ | refine gE_splitN ?_ ?_ | refine gE_split ?_ ?_ | refine gQ_splitN ?_ ?_ | refine gQ_split ?_ ?_ | refine gM_splitN ?_ ?_ | refine gM_split ?_ ?_ | refine condM_splitDN ?_ ?_ | refine condM_splitD ?_ ?_ | refine condM_splitN ?_ ?_ | refine condM_split ?_ ?_ | refine condM_any ?_ ?_ | intro _) | (simp [*, hlt]))
      all_goals (refine finW_intro () ?_ ?_; (· rw [← hj, scan_end _ (by omega)]); (refine le_of ?_ ?_ <;> first | trivial | (simp [*]; done)))
  · have kR2 : R = netB n := by rw [hf] at kR; rw [kR]; rfl
    clear hf kR
    have kR := keep kR2
    clear kR2
    repeat' (first | (with_reducible first | refine awp_seq ?_ | refine awp_blockS ?_ | refine awp_blockC ?_ | refine awp_blockR ?_ | refine awp_skip ?_ | refine awp_ret ?_ | refine awp_exit ?_ | refine awp_region ?_ | refine awp_regionD (id := 11) 10 mixed (by decide +kernel) ?_ | refine awp_condM ?_ | refine And.intro ?_ ?_ | refine gE_splitN ?_ ?_ | refine gE_split ?_ ?_ | refine gQ_splitN ?_ ?_ | refine gQ_split ?_ ?_ | refine gM_splitN ?_ ?_ | refine gM_split ?_ ?_ | refine condM_splitDN ?_ ?_ | refine condM_splitD ?_ ?_ | refine condM_splitN ?_ ?_ | refine condM_split ?_ ?_ | refine condM_any ?_ ?_ | intro _) | (simp [*]))
    all_goals try (rename_i h2; rw [kR, show netB n = (0, 0, 8) from if_pos (by omega)]; done)
    rename_i h2
    have kR2 : R = fin (scan (fRoad n) n.roads.length 0) (0, 0, 0) := by rw [kR]; exact if_neg (by omega)
    clear kR
    have kR := keep kR2
    clear kR2
    refine awp_for3 (fun (k : Nat) => k ≤ n.roads.length ∧ scan (fRoad n) (n.roads.length - k) k = scan (fRoad n) n.roads.length 0) [1, 2, 4] (fun (k : Nat) => [(6, .w false false (.int .i64 k))]) [2, 1, 0] (fun (k : Nat) => []) (fun (k : Nat) => n.roads.length - k) (fun (_u : Unit) => scan (fRoad n) n.roads.length 0 = none) [2, 4] (fun (_u : Unit) => []) [2, 1, 0] (fun (_u : Unit) => []) (0) ⟨Nat.zero_le _, rfl⟩ (by simp) (by simp) (fun k hk => ?_) (fun _u hf => ?_)
    · obtain ⟨hk, hj⟩ := hk
      by_cases hlt : k < n.roads.length
      · have cc := kcr k hlt
        have kj := keep hj
        clear hj
        repeat' (first | (with_reducible first | refine awp_seq ?_ | refine awp_blockS ?_ | refine awp_blockC ?_ | refine awp_blockR ?_ | refine awp_skip ?_ | refine awp_ret ?_ | refine awp_exit ?_ | refine awp_region ?_ | refine awp_regionD (id := 11) 10 mixed (by decide +kernel) ?_ | refine awp_condM ?_ | refine And.intro ?_ ?_ | refine gE_splitN ?_ ?_ | refine gE_split ?_ ?_ | refine gQ_splitN ?_ ?_ | refine gQ_split ?_ ?_ | refine gM_splitN ?_ ?_ | refine gM_split ?_ ?_ | refine condM_splitDN ?_ ?_ | refine condM_splitD ?_ ?_ | refine condM_splitN ?_ ?_ | refine condM_split ?_ ?_ | refine condM_any ?_ ?_ | refine cw (cc) ?_ | intro _) | (simp [*, hlt]))
        all_goals first
          | exact inI64 (by omega) (by omega)
          | omega
          | (rename_i h3; rw [kR, ← kj, scan_hit hlt (roadR_some h3)]; done)
          | (rename_i h3; rw [kR, ← kj, scan_hit hlt (roadR_some h3)]; rfl)
          | (rename_i h3; (refine loopK_normal _ _ _ _ _ (k + 1) _ ?_ (by first | omega | (dsimp only; omega) | (simp; omega)) ?_; (· refine ⟨by omega, ?_⟩; rw [← kj, scan_miss hlt (roadR_none h3)]); (refine le_of ?_ ?_ <;> first | trivial | (simp [*]; done))))
          | skip
      · repeat' (first | (with_reducible first | refine awp_seq ?_ | refine awp_blockS ?_ | refine awp_blockC ?_ | refine awp_blockR ?_ | refine awp_skip ?_ | refine awp_ret ?_ | refine awp_exit ?_ | refine awp_region ?_ | refine awp_regionD (id := 11) 10 mixed (by decide +kernel) ?_ | refine awp_condM ?_ | refine And.intro ?_ ?_ | refine gE_splitN ?_ ?_ | refine gE_split ?_ ?_ | refine gQ_splitN ?_ ?_ | refine gQ_split ?_ ?_ | refine gM_splitN ?_ ?_ | refine gM_split ?_ ?_ | refine condM_splitDN ?_ ?_ | refine condM_splitD ?_ ?_ | refine condM_splitN ?_ ?_ | refine condM_split ?_ ?_ | refine condM_any ?_ ?_ | intro _) | (simp [*, hlt]))
        all_goals (refine finW_intro () ?_ ?_; (· rw [← hj, scan_end _ (by omega)]); (refine le_of ?_ ?_ <;> first | trivial | (simp [*]; done)))
    · repeat' (first | (with_reducible first | refine awp_seq ?_ | refine awp_blockS ?_ | refine awp_blockC ?_ | refine awp_blockR ?_ | refine awp_skip ?_ | refine awp_ret ?_ | refine awp_exit ?_ | refine awp_region ?_ | refine awp_regionD (id := 11) 10 mixed (by decide +kernel) ?_ | refine awp_condM ?_ | refine And.intro ?_ ?_ | refine gE_splitN ?_ ?_ | refine gE_split ?_ ?_ | refine gQ_splitN ?_ ?_ | refine gQ_split ?_ ?_ | refine gM_splitN ?_ ?_ | refine gM_split ?_ ?_ | refine condM_splitDN ?_ ?_ | refine condM_splitD ?_ ?_ | refine condM_splitN ?_ ?_ | refine condM_split ?_ ?_ | refine condM_any ?_ ?_ | intro _) | (simp [*]))
      all_goals (rw [kR, hf]; try rfl)
theorem rNetErr_c (n : Net) (h : NetIn n) : RealCall Tryd.prog 11 [aNet n] (.int .i64 (netS n).2.2) true := by
  have hc := rCheckNet_c n h
  unfold aNet cNet markP at *
  refine realcall_intro Tryd.func11 (by kernel_rfl) rfl (Nat.le_of_ble_eq_true (by kernel_rfl)) ?_
  simp only [Tryd.results11, Tryd.ntmps11]
  repeat' (first | (with_reducible first | refine awp_seq ?_ | refine awp_blockS ?_ | refine awp_blockC ?_ | refine awp_blockR ?_ | refine awp_skip ?_ | refine awp_ret ?_ | refine awp_exit ?_ | refine awp_region ?_ | refine awp_condM ?_ | refine And.intro ?_ ?_ | refine gE_splitN ?_ ?_ | refine gE_split ?_ ?_ | refine gQ_splitN ?_ ?_ | refine gQ_split ?_ ?_ | refine gM_splitN ?_ ?_ | refine gM_split ?_ ?_ | refine condM_splitDN ?_ ?_ | refine condM_splitD ?_ ?_ | refine condM_splitN ?_ ?_ | refine condM_split ?_ ?_ | refine condM_any ?_ ?_ | refine cw (hc) ?_ | intro _) | (simp [*]))
end Go.Proofs.YtfjpgnacofkipaaDoor
namespace Go.Proofs.YtfjpgnacofkipaaDoor
open Go Go.Fi

def rowsA (l : List Road) (k : Nat) : List AV := (cRoads (l.take k)).map (.w true false)
theorem rowsA_len (l : List Road) (k : Nat) (h : k ≤ l.length) : (rowsA l k).length = k * 5 := by
  simp [rowsA, Nat.min_eq_left h]
@[simp] theorem rowsA_zero (l : List Road) : rowsA l 0 = [] := rfl
theorem take_succ_nth {α : Type} [Inhabited α] (l : List α) (k : Nat) (h : k < l.length) : l.take (k + 1) = l.take k ++ [nth l k] := by
  rw [List.take_succ_eq_append_getElem h]; simp [nth, List.getD_eq_getElem?_getD, List.getElem?_eq_getElem h]
theorem rowsA_succ (l : List Road) (k : Nat) (h : k < l.length) : rowsA l (k + 1) = rowsA l k ++ [.w true false (.str (nth l k).name), .w true false (.int .i64 (nth l k).frm), .w true false (.int .i64 (nth l k).to), .w true false (.int .i64 (nth l k).metres), .w true false (.sl (nth l k).pts.length (cPts (nth l k).pts))] := by
  unfold rowsA cRoads
  rw [take_succ_nth l k h, List.flatMap_append, List.map_append]
  simp [cRoad]
@[simp] theorem rowsA_lt (l : List Road) (k n : Nat) : AV.lt.ltL n (rowsA l k) = true := ltL_map n true false _
@[simp] theorem rowsA_self {D : List Nat} {h : Heap} {n n' : Nat} (l : List Road) (k : Nat) : cellsLe D h n n' (rowsA l k) (rowsA l k) = True := eq_true (cellsLe_w true false _)
@[simp] theorem cPts_flat : ∀ l : List Pt, flatL (cPts l) = true
  | [] => rfl
  | x :: r => by have := cPts_flat r; simpa [cPts, flatL] using this
@[simp] theorem cPts_one (l : List Pt) : (cPts l).all oneP = true := by simp [cPts, oneP]

set_option maxHeartbeats 4000000 in
theorem rCopy_c (n : Net) (h : NetIn n) : RealCall Tryd.prog 8 [aNet n] (aNet n) true := by
  have hnp := h.np
  have hnr := h.nr
  have cc := copyTexts_c n.places (by omega)
  unfold aNet cNet at *
  refine realcall_intro Tryd.func8 (by kernel_rfl) rfl (Nat.le_of_ble_eq_true (by kernel_rfl)) ?_
  simp only [Tryd.results8, Tryd.ntmps8]
  repeat' (first | (with_reducible first | refine awp_seq ?_ | refine awp_blockS ?_ | refine awp_blockC ?_ | refine awp_blockR ?_ | refine awp_skip ?_ | refine awp_ret ?_ | refine awp_exit ?_ | refine awp_region ?_ | refine awp_condM ?_ | refine And.intro ?_ ?_ | refine gE_splitN ?_ ?_ | refine gE_split ?_ ?_ | refine gQ_splitN ?_ ?_ | refine gQ_split ?_ ?_ | refine gM_splitN ?_ ?_ | refine gM_split ?_ ?_ | refine condM_splitDN ?_ ?_ | refine condM_splitD ?_ ?_ | refine condM_splitN ?_ ?_ | refine condM_split ?_ ?_ | refine condM_any ?_ ?_ | refine cw (cc) ?_ | intro _) | (simp [*]))
  refine awp_for4 4 (fun (k : Nat) => k ≤ n.roads.length) [1, 2, 3] (fun (k : Nat) => [(4, .w false false (.int .i64 k))]) [0] (fun (k : Nat) => [(3, rowsA n.roads k), (2, [.w true false (.sl n.places.length (strs n.places)), .msl 3 (k * 5) 5 0 k]), (1, [.w true true (.sl 0 []), .w true true (.sl 0 [])])]) (fun (k : Nat) => n.roads.length - k) (fun (_u : Unit) => True) [2, 3] (fun (_u : Unit) => []) [] (fun (_u : Unit) => [(3, rowsA n.roads n.roads.length), (2, [.w true false (.sl n.places.length (strs n.places)), .msl 3 (n.roads.length * 5) 5 0 n.roads.length]), (1, [.w true true (.sl 0 []), .w true true (.sl 0 [])])]) (0) (Nat.zero_le _) (le_gen [] (by simp) (by simp)) (fun k hk => ?_) (fun _u hf => ?_)
  · by_cases hlt : k < n.roads.length
    · have hpl := h.rp k hlt
      generalize hr : nth n.roads k = r at *
      have hlen := rowsA_len n.roads k hk
      have hsucc := rowsA_succ n.roads k hlt
      rw [hr] at hsucc
      have ks := keep hsucc
      clear hsucc
      repeat' (first | (with_reducible first | refine awp_seq ?_ | refine awp_blockS ?_ | refine awp_blockC ?_ | refine awp_blockR ?_ | refine awp_skip ?_ | refine awp_ret ?_ | refine awp_exit ?_ | refine awp_region ?_ | refine awp_condM ?_ | refine And.intro ?_ ?_ | refine gE_splitN ?_ ?_ | refine gE_split ?_ ?_ | refine gQ_splitN ?_ ?_ | refine gQ_split ?_ ?_ | refine gM_splitN ?_ ?_ | refine gM_split ?_ ?_ | refine condM_splitDN ?_ ?_ | refine condM_splitD ?_ ?_ | refine condM_splitN ?_ ?_ | refine condM_split ?_ ?_ | refine condM_any ?_ ?_ | intro _) | (simp [*, hlt, hr, cRoad, hlen]))
      all_goals first
        | exact inI64 (by omega) (by omega)
        | omega
        | skip
      rw [keep_def] at ks
      (refine loopK_normal _ _ _ _ _ (k + 1) _ ?_ (by first | omega | (dsimp only; omega) | (simp; omega)) ?_; (· omega); (refine le_gen [5] ?_ ?_ <;> first | trivial | (simp [*, Nat.add_mul]; done)))
    · have hke : k = n.roads.length := by omega
      subst hke
      repeat' (first | (with_reducible first | refine awp_seq ?_ | refine awp_blockS ?_ | refine awp_blockC ?_ | refine awp_blockR ?_ | refine awp_skip ?_ | refine awp_ret ?_ | refine awp_exit ?_ | refine awp_region ?_ | refine awp_condM ?_ | refine And.intro ?_ ?_ | refine gE_splitN ?_ ?_ | refine gE_split ?_ ?_ | refine gQ_splitN ?_ ?_ | refine gQ_split ?_ ?_ | refine gM_splitN ?_ ?_ | refine gM_split ?_ ?_ | refine condM_splitDN ?_ ?_ | refine condM_splitD ?_ ?_ | refine condM_splitN ?_ ?_ | refine condM_split ?_ ?_ | refine condM_any ?_ ?_ | intro _) | (simp [*]))
      (refine finW_intro () ?_ ?_; (· trivial); (refine le_of ?_ ?_ <;> first | trivial | (simp [*]; done)))
  · repeat' (first | (with_reducible first | refine awp_seq ?_ | refine awp_blockS ?_ | refine awp_blockC ?_ | refine awp_blockR ?_ | refine awp_skip ?_ | refine awp_ret ?_ | refine awp_exit ?_ | refine awp_region ?_ | refine awp_condM ?_ | refine And.intro ?_ ?_ | refine gE_splitN ?_ ?_ | refine gE_split ?_ ?_ | refine gQ_splitN ?_ ?_ | refine gQ_split ?_ ?_ | refine gM_splitN ?_ ?_ | refine gM_split ?_ ?_ | refine condM_splitDN ?_ ?_ | refine condM_splitD ?_ ?_ | refine condM_splitN ?_ ?_ | refine condM_split ?_ ?_ | refine condM_any ?_ ?_ | intro _) | (simp [*, rowsA]))
end Go.Proofs.YtfjpgnacofkipaaDoor
namespace Go.Proofs.YtfjpgnacofkipaaDoor
open Go Go.Fi

def sizesP (p r : Nat) : Prop := ¬ (7 < p ∧ p ≤ 20 ∨ 22 < p ∨ 14 < r ∧ r ≤ 60 ∨ 62 < r)
instance (p r : Nat) : Decidable (sizesP p r) := inferInstanceAs (Decidable (¬ _))
def fewB (n : Net) : Bool := decide (sizesP n.places.length n.roads.length) && n.places.all (fun s => decide (s.size ≤ 20)) && n.roads.all (fun r => decide (r.name.size ≤ 20 ∧ r.pts.length ≤ 10))
theorem all_step {α : Type} [Inhabited α] (p : α → Bool) (l : List α) (k : Nat) (h : k < l.length) : (l.drop k).all p = (p (nth l k) && (l.drop (k + 1)).all p) := by
  rw [List.drop_eq_getElem_cons h, List.all_cons]
  simp [nth, List.getD_eq_getElem?_getD, List.getElem?_eq_getElem h]
theorem all_end {α : Type} (p : α → Bool) (l : List α) : (l.drop l.length).all p = true := by
  rw [List.drop_eq_nil_of_le (Nat.le_refl _)]; rfl
def okP (l : List ByteArray) : Bool := l.all (fun s => decide (s.size ≤ 20))
def okR (l : List Road) : Bool := l.all (fun r => decide (r.name.size ≤ 20 ∧ r.pts.length ≤ 10))
theorem few_no {n : Net} (h : ¬ sizesP n.places.length n.roads.length) : fewB n = false := by
  unfold fewB; rw [decide_eq_false h]; rfl
theorem few_eq {n : Net} (h : sizesP n.places.length n.roads.length) : fewB n = (okP n.places && okR n.roads) := by
  unfold fewB; rw [decide_eq_true h, Bool.true_and]; rfl
def okPd (l : List ByteArray) (k : Nat) : Bool := (l.drop k).all (fun s => decide (s.size ≤ 20))
def okRd (l : List Road) (k : Nat) : Bool := (l.drop k).all (fun r => decide (r.name.size ≤ 20 ∧ r.pts.length ≤ 10))
theorem okPd_step {l : List ByteArray} {k : Nat} (h : k < l.length) : okPd l k = (decide ((nth l k).size ≤ 20) && okPd l (k + 1)) := all_step _ l k h
theorem okRd_step {l : List Road} {k : Nat} (h : k < l.length) : okRd l k = (decide ((nth l k).name.size ≤ 20 ∧ (nth l k).pts.length ≤ 10) && okRd l (k + 1)) := all_step _ l k h
theorem okPd_end (l : List ByteArray) : okPd l l.length = true := all_end _ l
theorem okRd_end (l : List Road) : okRd l l.length = true := all_end _ l
set_option maxHeartbeats 4000000 in
theorem few_c (n : Net) : RealCall Tryd.prog 5 [aNet n] (.bool (fewB n)) true := by
  by_cases hs : sizesP n.places.length n.roads.length
  · have hB := few_eq hs
    generalize fewB n = B at *
    have kB := keep hB
    clear hB
    have hs2 := hs
    unfold sizesP at hs2
    unfold aNet cNet
    refine realcall_intro Tryd.func5 (by kernel_rfl) rfl (Nat.le_of_ble_eq_true (by kernel_rfl)) ?_
    simp only [Tryd.results5, Tryd.ntmps5]
    refine awp_seq ?_
    refine awp_region ?_
    simp
    refine awp_join (fun _ : Unit => True) 1 [1] (fun _ => []) (fun _ => [(0, [.w false false (.sl n.places.length (strs n.places)), .w false false (.sl n.roads.length (cRoads n.roads))])]) ?_ (fun _ _ => ?_)
    · have c1 : (7 < (n.places.length : Int) ∧ ¬ (n.places.length : Int) ≤ 20 ∧ ¬ 22 < (n.places.length : Int)) ∨ (¬ 7 < (n.places.length : Int) ∧ ¬ 22 < (n.places.length : Int)) := by omega
      have c2 : (14 < (n.roads.length : Int) ∧ ¬ (n.roads.length : Int) ≤ 60 ∧ ¬ 62 < (n.roads.length : Int)) ∨ (¬ 14 < (n.roads.length : Int) ∧ ¬ 62 < (n.roads.length : Int)) := by omega
      clear hs hs2
      rcases c1 with ⟨a1, a2, a3⟩ | ⟨a1, a3⟩ <;> rcases c2 with ⟨b1, b2, b3⟩ | ⟨b1, b3⟩
      all_goals
        repeat' (first | (with_reducible first | refine awp_seq ?_ | refine awp_blockS ?_ | refine awp_blockC ?_ | refine awp_blockR ?_ | refine awp_skip ?_ | refine awp_ret ?_ | refine awp_exit ?_ | refine awp_region ?_ | refine awp_condM ?_ | refine And.intro ?_ ?_ | refine gE_splitDN ?_ ?_ | refine gE_splitD ?_ ?_ | refine gQ_splitDN ?_ ?_ | refine gQ_splitD ?_ ?_ | refine gM_splitDN ?_ ?_ | refine gM_splitD ?_ ?_ | refine gE_splitN ?_ ?_ | refine gE_split ?_ ?_ | refine gQ_splitN ?_ ?_ | refine gQ_split ?_ ?_ | refine gM_splitN ?_ ?_ | refine gM_split ?_ ?_ | refine condM_splitDN ?_ ?_ | refine condM_splitD ?_ ?_ | refine condM_splitN ?_ ?_ | refine condM_split ?_ ?_ | refine condM_any ?_ ?_ | intro _) | (simp [*]))
        (refine finW_intro () ?_ ?_; (· trivial); (refine le_of ?_ ?_ <;> first | trivial | (simp [*]; done)))
    · repeat' (first | (with_reducible first | refine awp_seq ?_ | refine awp_blockS ?_ | refine awp_blockC ?_ | refine awp_blockR ?_ | refine awp_skip ?_ | refine awp_ret ?_ | refine awp_exit ?_ | refine awp_region ?_ | refine awp_condM ?_ | refine And.intro ?_ ?_ | refine gE_splitDN ?_ ?_ | refine gE_splitD ?_ ?_ | refine gQ_splitDN ?_ ?_ | refine gQ_splitD ?_ ?_ | refine gM_splitDN ?_ ?_ | refine gM_splitD ?_ ?_ | refine gE_splitN ?_ ?_ | refine gE_split ?_ ?_ | refine gQ_splitN ?_ ?_ | refine gQ_split ?_ ?_ | refine gM_splitN ?_ ?_ | refine gM_split ?_ ?_ | refine condM_splitDN ?_ ?_ | refine condM_splitD ?_ ?_ | refine condM_splitN ?_ ?_ | refine condM_split ?_ ?_ | refine condM_any ?_ ?_ | intro _) | (simp [*]))
      refine awp_for3 (fun (k : Nat) => k ≤ n.places.length ∧ okPd n.places k = okP n.places) [1] (fun (k : Nat) => [(3, .w false false (.int .i64 k))]) [0] (fun (k : Nat) => []) (fun (k : Nat) => n.places.length - k) (fun (_u : Unit) => okP n.places = true) [1] (fun (_u : Unit) => []) [0] (fun (_u : Unit) => []) (0) ⟨Nat.zero_le _, rfl⟩ (by simp) (by simp) (fun k hk => ?_) (fun _u hf => ?_)
      · obtain ⟨hk, hj⟩ := hk
        by_cases hlt : k < n.places.length
        · rw [okPd_step hlt] at hj
          have kj := keep hj
          clear hj
          repeat' (first | (with_reducible first | refine awp_seq ?_ | refine awp_blockS ?_ | refine awp_blockC ?_ | refine awp_blockR ?_ | refine awp_skip ?_ | refine awp_ret ?_ | refine awp_exit ?_ | refine awp_region ?_ | refine awp_condM ?_ | refine And.intro ?_ ?_ | refine gE_splitDN ?_ ?_ | refine gE_splitD ?_ ?_ | refine gQ_splitDN ?_ ?_ | refine gQ_splitD ?_ ?_ | refine gM_splitDN ?_ ?_ | refine gM_splitD ?_ ?_ | refine gE_splitN ?_ ?_ | refine gE_split ?_ ?_ | refine gQ_splitN ?_ ?_ | refine gQ_split ?_ ?_ | refine gM_splitN ?_ ?_ | refine gM_split ?_ ?_ | refine condM_splitDN ?_ ?_ | refine condM_splitD ?_ ?_ | refine condM_splitN ?_ ?_ | refine condM_split ?_ ?_ | refine condM_any ?_ ?_ | intro _) | (simp [*, hlt]))
          all_goals first
            | exact inI64 (by omega) (by omega)
            | omega
            | (rename_i h0; rw [kB, ← kj, decide_eq_false (show ¬ (nth n.places k).size ≤ 20 by omega)]; rfl)
            | (rename_i h0; (refine loopK_normal _ _ _ _ _ (k + 1) _ ?_ (by first | omega | (dsimp only; omega) | (simp; omega)) ?_; (· refine ⟨by omega, ?_⟩; rw [← kj, decide_eq_true (show (nth n.places k).size ≤ 20 by omega), Bool.true_and]); (refine le_of ?_ ?_ <;> first | trivial | (simp [*]; done))))
            | skip
        · have hke : k = n.places.length := by omega
          subst hke
          repeat' (first | (with_reducible first | refine awp_seq ?_ | refine awp_blockS ?_ | refine awp_blockC ?_ | refine awp_blockR ?_ | refine awp_skip ?_ | refine awp_ret ?_ | refine awp_exit ?_ | refine awp_region ?_ | refine awp_condM ?_ | refine And.intro ?_ ?_ | refine gE_splitDN ?_ ?_ | refine gE_splitD ?_ ?_ | refine gQ_splitDN ?_ ?_ | refine gQ_splitD ?_ ?_ | refine gM_splitDN ?_ ?_ | refine gM_splitD ?_ ?_ | refine gE_splitN ?_ ?_ | refine gE_split ?_ ?_ | refine gQ_splitN ?_ ?_ | refine gQ_split ?_ ?_ | refine gM_splitN ?_ ?_ | refine gM_split ?_ ?_ | refine condM_splitDN ?_ ?_ | refine condM_splitD ?_ ?_ | refine condM_splitN ?_ ?_ | refine condM_split ?_ ?_ | refine condM_any ?_ ?_ | intro _) | (simp [*]))
          all_goals (refine finW_intro () ?_ ?_; (· rw [← hj, okPd_end]); (refine le_of ?_ ?_ <;> first | trivial | (simp [*]; done)))
      · rw [hf, Bool.true_and] at kB
        repeat' (first | (with_reducible first | refine awp_seq ?_ | refine awp_blockS ?_ | refine awp_blockC ?_ | refine awp_blockR ?_ | refine awp_skip ?_ | refine awp_ret ?_ | refine awp_exit ?_ | refine awp_region ?_ | refine awp_condM ?_ | refine And.intro ?_ ?_ | refine gE_splitDN ?_ ?_ | refine gE_splitD ?_ ?_ | refine gQ_splitDN ?_ ?_ | refine gQ_splitD ?_ ?_ | refine gM_splitDN ?_ ?_ | refine gM_splitD ?_ ?_ | refine gE_splitN ?_ ?_ | refine gE_split ?_ ?_ | refine gQ_splitN ?_ ?_ | refine gQ_split ?_ ?_ | refine gM_splitN ?_ ?_ | refine gM_split ?_ ?_ | refine condM_splitDN ?_ ?_ | refine condM_splitD ?_ ?_ | refine condM_splitN ?_ ?_ | refine condM_split ?_ ?_ | refine condM_any ?_ ?_ | intro _) | (simp [*]))
        refine awp_for3 (fun (k : Nat) => k ≤ n.roads.length ∧ okRd n.roads k = okR n.roads) [1] (fun (k : Nat) => [(4, .w false false (.int .i64 k))]) [0] (fun (k : Nat) => []) (fun (k : Nat) => n.roads.length - k) (fun (_u : Unit) => okR n.roads = true) [] (fun (_u : Unit) => []) [0] (fun (_u : Unit) => []) (0) ⟨Nat.zero_le _, rfl⟩ (by simp) (by simp) (fun k hk => ?_) (fun _u hf => ?_)
        · obtain ⟨hk, hj⟩ := hk
          by_cases hlt : k < n.roads.length
          · rw [okRd_step hlt] at hj
            have kj := keep hj
            clear hj
            repeat' (first | (with_reducible first | refine awp_seq ?_ | refine awp_blockS ?_ | refine awp_blockC ?_ | refine awp_blockR ?_ | refine awp_skip ?_ | refine awp_ret ?_ | refine awp_exit ?_ | refine awp_region ?_ | refine awp_condM ?_ | refine And.intro ?_ ?_ | refine gE_splitDN ?_ ?_ | refine gE_splitD ?_ ?_ | refine gQ_splitDN ?_ ?_ | refine gQ_splitD ?_ ?_ | refine gM_splitDN ?_ ?_ | refine gM_splitD ?_ ?_ | refine gE_splitN ?_ ?_ | refine gE_split ?_ ?_ | refine gQ_splitN ?_ ?_ | refine gQ_split ?_ ?_ | refine gM_splitN ?_ ?_ | refine gM_split ?_ ?_ | refine condM_splitDN ?_ ?_ | refine condM_splitD ?_ ?_ | refine condM_splitN ?_ ?_ | refine condM_split ?_ ?_ | refine condM_any ?_ ?_ | intro _) | (simp [*, hlt]))
            all_goals first
              | exact inI64 (by omega) (by omega)
              | omega
              | (rw [kB, ← kj, decide_eq_false (show ¬ ((nth n.roads k).name.size ≤ 20 ∧ (nth n.roads k).pts.length ≤ 10) by omega)]; rfl)
              | ((refine loopK_normal _ _ _ _ _ (k + 1) _ ?_ (by first | omega | (dsimp only; omega) | (simp; omega)) ?_; (· refine ⟨by omega, ?_⟩; rw [← kj, decide_eq_true (show (nth n.roads k).name.size ≤ 20 ∧ (nth n.roads k).pts.length ≤ 10 by omega), Bool.true_and]); (refine le_of ?_ ?_ <;> first | trivial | (simp [*]; done))))
              | skip
          · have hke : k = n.roads.length := by omega
            subst hke
            repeat' (first | (with_reducible first | refine awp_seq ?_ | refine awp_blockS ?_ | refine awp_blockC ?_ | refine awp_blockR ?_ | refine awp_skip ?_ | refine awp_ret ?_ | refine awp_exit ?_ | refine awp_region ?_ | refine awp_condM ?_ | refine And.intro ?_ ?_ | refine gE_splitDN ?_ ?_ | refine gE_splitD ?_ ?_ | refine gQ_splitDN ?_ ?_ | refine gQ_splitD ?_ ?_ | refine gM_splitDN ?_ ?_ | refine gM_splitD ?_ ?_ | refine gE_splitN ?_ ?_ | refine gE_split ?_ ?_ | refine gQ_splitN ?_ ?_ | refine gQ_split ?_ ?_ | refine gM_splitN ?_ ?_ | refine gM_split ?_ ?_ | refine condM_splitDN ?_ ?_ | refine condM_splitD ?_ ?_ | refine condM_splitN ?_ ?_ | refine condM_split ?_ ?_ | refine condM_any ?_ ?_ | intro _) | (simp [*]))
            all_goals (refine finW_intro () ?_ ?_; (· rw [← hj, okRd_end]); (refine le_of ?_ ?_ <;> first | trivial | (simp [*]; done)))
        · rw [hf] at kB
          repeat' (first | (with_reducible first | refine awp_seq ?_ | refine awp_blockS ?_ | refine awp_blockC ?_ | refine awp_blockR ?_ | refine awp_skip ?_ | refine awp_ret ?_ | refine awp_exit ?_ | refine awp_region ?_ | refine awp_condM ?_ | refine And.intro ?_ ?_ | refine gE_splitDN ?_ ?_ | refine gE_splitD ?_ ?_ | refine gQ_splitDN ?_ ?_ | refine gQ_splitD ?_ ?_ | refine gM_splitDN ?_ ?_ | refine gM_splitD ?_ ?_ | refine gE_splitN ?_ ?_ | refine gE_split ?_ ?_ | refine gQ_splitN ?_ ?_ | refine gQ_split ?_ ?_ | refine gM_splitN ?_ ?_ | refine gM_split ?_ ?_ | refine condM_splitDN ?_ ?_ | refine condM_splitD ?_ ?_ | refine condM_splitN ?_ ?_ | refine condM_split ?_ ?_ | refine condM_any ?_ ?_ | intro _) | (simp [*]))
          all_goals exact kB
  · rw [few_no hs]
    unfold sizesP at hs
    unfold aNet cNet
    refine realcall_intro Tryd.func5 (by kernel_rfl) rfl (Nat.le_of_ble_eq_true (by kernel_rfl)) ?_
    simp only [Tryd.results5, Tryd.ntmps5]
    refine awp_seq ?_
    refine awp_region ?_
    simp
    refine awp_join (fun _ : Unit => False) 1 [] (fun _ => []) (fun _ => []) ?_ (fun _ hf => hf.elim)
    have c1 : (7 < (n.places.length : Int) ∧ (n.places.length : Int) ≤ 20) ∨ (7 < (n.places.length : Int) ∧ ¬ (n.places.length : Int) ≤ 20 ∧ 22 < (n.places.length : Int)) ∨
      (((7 < (n.places.length : Int) ∧ ¬ (n.places.length : Int) ≤ 20 ∧ ¬ 22 < (n.places.length : Int)) ∨ (¬ 7 < (n.places.length : Int) ∧ ¬ 22 < (n.places.length : Int))) ∧
       ((14 < (n.roads.length : Int) ∧ (n.roads.length : Int) ≤ 60) ∨ (14 < (n.roads.length : Int) ∧ ¬ (n.roads.length : Int) ≤ 60 ∧ 62 < (n.roads.length : Int)))) := by omega
    clear hs
    rcases c1 with ⟨a1, a2⟩ | ⟨a1, a2, a3⟩ | ⟨⟨a1, a2, a3⟩ | ⟨a1, a3⟩, ⟨b1, b2⟩ | ⟨b1, b2, b3⟩⟩
    all_goals
      repeat' (first | (with_reducible first | refine awp_seq ?_ | refine awp_blockS ?_ | refine awp_blockC ?_ | refine awp_blockR ?_ | refine awp_skip ?_ | refine awp_ret ?_ | refine awp_exit ?_ | refine awp_region ?_ | refine awp_condM ?_ | refine And.intro ?_ ?_ | refine gE_splitDN ?_ ?_ | refine gE_splitD ?_ ?_ | refine gQ_splitDN ?_ ?_ | refine gQ_splitD ?_ ?_ | refine gM_splitDN ?_ ?_ | refine gM_splitD ?_ ?_ | refine gE_splitN ?_ ?_ | refine gE_split ?_ ?_ | refine gQ_splitN ?_ ?_ | refine gQ_split ?_ ?_ | refine gM_splitN ?_ ?_ | refine gM_split ?_ ?_ | refine condM_splitDN ?_ ?_ | refine condM_splitD ?_ ?_ | refine condM_splitN ?_ ?_ | refine condM_split ?_ ?_ | refine condM_any ?_ ?_ | intro _) | (simp [*]))
theorem few_in {n : Net} (h : fewB n = true) : NetIn n := by
  unfold fewB at h
  simp only [Bool.and_eq_true, decide_eq_true_eq, List.all_eq_true] at h
  obtain ⟨⟨h1, h2⟩, h3⟩ := h
  unfold sizesP at h1
  refine ⟨by omega, by omega, fun k hk => ?_, fun k hk => ?_, fun k hk => ?_⟩
  · have := h2 _ (nth_mem hk); omega
  · have := h3 _ (nth_mem hk); omega
  · have := h3 _ (nth_mem hk); omega
end Go.Proofs.YtfjpgnacofkipaaDoor
namespace Go.Proofs.YtfjpgnacofkipaaDoor
open Go Go.Fi

end Go.Proofs.YtfjpgnacofkipaaDoor

