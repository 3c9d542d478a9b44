/- Contracts of functions for this claim: lemmas alone. -/
import Derived.Test.YtfpamehamllndaaGreatDoorP9
set_option linter.unusedSimpArgs false
set_option linter.unusedVariables false
namespace Go.Proofs.YtfpamehamllndaaGreatDoor
open Go Go.Fi

def roadR (n : Net) (i : Nat) : Int × Int := match fRoad n i with
  | some r => (r.2.1, r.2.2)
  | none => (0, 0)
theorem roadR_err {n : Net} {i : Nat} {c : Int} (h : errR n i = c) (hc : c ≠ 0) : roadR n i = (0, c) := by
  unfold roadR fRoad
  rw [if_neg (by rw [h]; exact hc), h]
theorem any_end {α : Type} (p : α → Bool) (l : List α) (i : Nat) : ((l.take i).drop i).any p = false := by
  rw [List.drop_eq_nil_of_le (by simp; omega)]; rfl
theorem any_step {α : Type} [Inhabited α] (p : α → Bool) (l : List α) (i k : Nat) (h : k < i) (hi : i ≤ l.length) : ((l.take i).drop k).any p = (p (nth l k) || ((l.take i).drop (k + 1)).any p) := by
  have hk : k < (l.take i).length := by simp; omega
  rw [List.drop_eq_getElem_cons hk, List.any_cons]
  congr 2
  simp only [List.getElem_take]
  simp [nth, List.getD_eq_getElem?_getD, List.getElem?_eq_getElem (show k < l.length by omega)]
theorem pointE_split (l : List Pt) (k : Nat) : pointE l k = if (winB (nth l k).at_ 0 86399 && winB (nth l k).lo 0 7200 && winB (nth l k).hi 0 7200) = true then (if (nth l k).lo ≤ (nth l k).hi ∧ (k = 0 ∨ (nth l (k - 1)).at_ < (nth l k).at_) then 0 else 9) else 2 := by
  have e : (decide ((nth l k).lo ≤ (nth l k).hi) && (decide (k = 0) || decide ((nth l (k - 1)).at_ < (nth l k).at_))) = decide ((nth l k).lo ≤ (nth l k).hi ∧ (k = 0 ∨ (nth l (k - 1)).at_ < (nth l k).at_)) := by simp
  unfold pointE
  rw [e]
  cases (winB (nth l k).at_ 0 86399 && winB (nth l k).lo 0 7200 && winB (nth l k).hi 0 7200) with
  | false => rfl
  | true =>
    by_cases h : (nth l k).lo ≤ (nth l k).hi ∧ (k = 0 ∨ (nth l (k - 1)).at_ < (nth l k).at_)
    · rw [decide_eq_true h]; simp [firstS, errUnless, h]
    · rw [decide_eq_false h]; simp only [if_true, if_neg h]; rfl
/-- the two ways to say how much later the next point is -/
theorem ord_mod {l : List Pt} (hl : PtsOk l) (hi : PtsInc l) {k : Nat} (hk : k < l.length) :
    (decide ((nth l ((k + 1) % l.length)).lo < (nth l k).lo - ((nth l ((k + 1) % l.length)).at_ - (nth l k).at_) % 86400) || decide ((nth l ((k + 1) % l.length)).hi < (nth l k).hi - ((nth l ((k + 1) % l.length)).at_ - (nth l k).at_) % 86400)) = !inOrderB l k := by
  have hj : (k + 1) % l.length < l.length := Nat.mod_lt _ hl.pos
  have b1 := hl.at_ k hk
  have b2 := hl.at_ _ hj
  have s1 := hi.small k hk
  have s2 := hi.small _ hj
  have hlt1 : k < (k + 1) % l.length → (nth l k).at_ < (nth l ((k + 1) % l.length)).at_ := fun h => hi.lt h hj
  have hlt2 : (k + 1) % l.length < k → (nth l ((k + 1) % l.length)).at_ < (nth l k).at_ := fun h => hi.lt h hk
  unfold inOrderB gapS
  by_cases he : (k + 1) % l.length = k
  · rw [he] at *
    simp only [Int.sub_self]
    rw [if_pos (by omega)]
    simp only [show (0 : Int) % 86400 = 0 from rfl]
    have e1 : decide ((nth l k).lo < (nth l k).lo - 0) = false := decide_eq_false (by omega)
    have e2 : decide ((nth l k).hi < (nth l k).hi - 0) = false := decide_eq_false (by omega)
    have e3 : decide ((nth l k).lo - (0 + 86400) ≤ (nth l k).lo) = true := decide_eq_true (by omega)
    have e4 : decide ((nth l k).hi - (0 + 86400) ≤ (nth l k).hi) = true := decide_eq_true (by omega)
    rw [e1, e2, e3, e4]; rfl
  · generalize (k + 1) % l.length = j at *
    have hd : ((nth l j).at_ - (nth l k).at_) % 86400 = if (nth l j).at_ - (nth l k).at_ ≤ 0 then (nth l j).at_ - (nth l k).at_ + 86400 else (nth l j).at_ - (nth l k).at_ := by
      have hne : (nth l j).at_ ≠ (nth l k).at_ := by
        rcases Nat.lt_trichotomy k j with h | h | h
        · have := hlt1 h; omega
        · omega
        · have := hlt2 h; omega
      split <;> omega
    rw [hd]
    generalize (if (nth l j).at_ - (nth l k).at_ ≤ 0 then (nth l j).at_ - (nth l k).at_ + 86400 else (nth l j).at_ - (nth l k).at_) = g
    rw [Bool.not_and]
    congr 1
    · by_cases h : (nth l j).lo < (nth l k).lo - g
      · rw [decide_eq_true h, decide_eq_false (by omega)]; rfl
      · rw [decide_eq_false h, decide_eq_true (by omega)]; rfl
    · by_cases h : (nth l j).hi < (nth l k).hi - g
      · rw [decide_eq_true h, decide_eq_false (by omega)]; rfl
      · rw [decide_eq_false h, decide_eq_true (by omega)]; rfl

def dupB (l : List Road) (i : Nat) (nm : ByteArray) : Bool := (l.take i).any fun x => decide (x.name = nm)
set_option maxHeartbeats 4000000 in
theorem rRoadE_c (n : Net) (h : NetIn n) (i : Nat) (hi : i < n.roads.length) : RealCall Tryz.prog 60 [aNet n, .int .i64 i] (.tup [.int .i64 (roadR n i).1, .int .i64 (roadR n i).2]) true := by
  have hnp := h.np
  have hnr := h.nr
  have cn := rIsName_c _ (h.rs i hi)
  have hpl := h.rp i hi
  have cf := fun k => rIsPlace_c n k hnp
  have her : errR n i = firstS [errUnless (nameB (nth n.roads i).name) 4, errUnless (!dupB n.roads i (nth n.roads i).name) 5,
          errUnless (winB (nth n.roads i).frm 0 (n.places.length - 1) && winB (nth n.roads i).to 0 (n.places.length - 1)) 6, errUnless (!decide ((nth n.roads i).frm = (nth n.roads i).to)) 26, errUnless (winB (nth n.roads i).metres 0 100000) 2, errUnless (decide (0 < (nth n.roads i).pts.length)) 10, errUnless (decide (((nth n.roads i).pts.length : Int) ≤ 8)) 8] := rfl
  have hfr : fRoad n i = if errR n i = 0 then orE (scan (fPt (nth n.roads i).pts i) (nth n.roads i).pts.length 0) (scan (fOrd (nth n.roads i).pts i) (nth n.roads i).pts.length 0) else some (i, 0, errR n i) := rfl
  have hRe := fun c => roadR_err (n := n) (i := i) (c := c)
  have hRf : roadR n i = match fRoad n i with | some r => (r.2.1, r.2.2) | none => (0, 0) := rfl
  have kk := keep (And.intro her (And.intro hfr (And.intro hRe hRf)))
  clear her hfr hRe hRf
  generalize roadR n i = R at *
  generalize hr : nth n.roads i = r at *
  have kk2 := keep kk
  clear kk
  unfold aNet cNet at *
  refine realcall_intro Tryz.func60 (by kernel_rfl) rfl (Nat.le_of_ble_eq_true (by kernel_rfl)) ?_
  simp only [Tryz.results60, Tryz.ntmps60]
  repeat' (first | (with_reducible first | refine awp_seq ?_ | refine awp_skip ?_ | refine awp_ret ?_ | refine awp_region ?_ | refine awp_condM ?_ | refine And.intro ?_ ?_ | refine condM_splitN ?_ ?_ | refine cw (cn) ?_ | intro _) | (simp [*, hi, hr, cRoad]))
  all_goals first
    | omega
    | (obtain ⟨her, hfr, hRe, hRf⟩ := kk2; rw [hRe 4 ?_ (by decide)]; rw [her]; simp [firstS, errUnless, *]; done)
    | skip
  rename_i g1
  refine awp_for3 (fun (k : Nat) => k ≤ i ∧ ((n.roads.take i).drop k).any (fun x => decide (x.name = r.name)) = dupB n.roads i r.name) [1, 2, 6] (fun (k : Nat) => [(7, .w false false (.int .i64 k))]) [1, 0] (fun (k : Nat) => []) (fun (k : Nat) => i - k) (fun (_u : Unit) => dupB n.roads i r.name = false) [2, 6] (fun (_u : Unit) => []) [1, 0] (fun (_u : Unit) => []) (0) ⟨Nat.zero_le _, rfl⟩ (by simp) (by simp) (fun k hk => ?_) (fun _u hf => ?_)
  · obtain ⟨hk, hj⟩ := hk
    by_cases hlt : k < i
    · have hkn : k < n.roads.length := by omega
      rw [any_step _ _ _ _ hlt (by omega)] at hj
      have kj := keep hj
      clear hj
      repeat' (first | (with_reducible first | refine awp_seq ?_ | refine awp_blockS ?_ | refine awp_skip ?_ | refine awp_ret ?_ | refine awp_region ?_ | refine awp_regionD (id := 7) 9 mixed (by decide +kernel) ?_ | refine awp_condM ?_ | refine And.intro ?_ ?_ | refine condM_splitD ?_ ?_ | intro _) | (simp [*, hlt, hkn]))
      all_goals first
        | exact inI64 (by omega) (by omega)
        | omega
        | (rename_i h1; obtain ⟨her, hfr, hRe, hRf⟩ := kk2
           have ha : dupB n.roads i r.name = true := kj.symm.trans (by rw [decide_eq_true h1]; rfl)
           rw [hRe 5 ?_ (by decide)]; rw [her, ha]; simp [firstS, errUnless, g1]; done)
        | (rename_i h1; (refine loopK_normal _ _ _ _ _ (k + 1) _ ?_ (by first | omega | (dsimp only; omega) | (simp; omega)) ?_; (· refine ⟨by omega, ?_⟩; rw [← kj, decide_eq_false h1]; rfl); (refine le_of ?_ ?_ <;> first | trivial | (simp [*]; done))))
    · repeat' (first | (with_reducible first | refine awp_seq ?_ | refine awp_exit ?_ | refine awp_region ?_ | refine awp_condM ?_ | intro _) | (simp [*, hlt]))
      all_goals (refine finW_intro () ?_ ?_; (· rw [← hj, show k = i by omega, any_end]); (refine le_of ?_ ?_ <;> first | trivial | (simp [*]; done)))
  · have g2 := keep hf
    clear hf
    repeat' (first | (with_reducible first | refine awp_seq ?_ | refine awp_skip ?_ | refine awp_ret ?_ | refine awp_region ?_ | refine awp_condM ?_ | refine And.intro ?_ ?_ | refine gE_split ?_ ?_ | refine condM_splitD ?_ ?_ | refine condM_splitN ?_ ?_ | refine cw (cf _) ?_ | refine cw (rWithin_c _ _ _) ?_ | intro _) | (simp [*]))
    all_goals first
      | omega
      | (obtain ⟨her, hfr, hRe, hRf⟩ := kk2; rw [hRe 6 ?_ (by decide)]; rw [her, g2]; simp [firstS, errUnless, *]; done)
      | (obtain ⟨her, hfr, hRe, hRf⟩ := kk2; rw [hRe 26 ?_ (by decide)]; rw [her, g2]; simp [firstS, errUnless, *]; done)
      | (obtain ⟨her, hfr, hRe, hRf⟩ := kk2; rw [hRe 2 ?_ (by decide)]; rw [her, g2]; simp [firstS, errUnless, *]; done)
      | (obtain ⟨her, hfr, hRe, hRf⟩ := kk2; rw [hRe 10 ?_ (by decide)]; rw [her, g2]; simp [firstS, errUnless, *]; done)
      | (obtain ⟨her, hfr, hRe, hRf⟩ := kk2; rw [hRe 8 ?_ (by decide)]; rw [her, g2]; simp [firstS, errUnless, *]; done)
      | skip
    rename_i q1 q2 q3 q4 q5 q6
    obtain ⟨her, hfr, hRe, hRf⟩ := kk2
    have he0 : errR n i = 0 := by rw [her, g2]; simp [firstS, errUnless, *]
    rw [if_pos he0] at hfr
    rw [hfr] at hRf
    have hpos : 0 < r.pts.length := by
      rcases Nat.eq_zero_or_pos r.pts.length with h0 | h0
      · exact absurd (List.eq_nil_of_length_eq_zero h0) (by simpa using q5)
      · exact h0
    have kR := keep hRf
    clear hRf hfr her hRe he0 cn cf g1 g2 q1 q2 q3 q4 q5 q6
    refine awp_for3 (fun (k : Nat) => k ≤ r.pts.length ∧ scan (fPt r.pts i) (r.pts.length - k) k = scan (fPt r.pts i) r.pts.length 0) [6] (fun (k : Nat) => [(8, .w false false (.int .i64 k))]) [1] (fun (k : Nat) => []) (fun (k : Nat) => r.pts.length - k) (fun (_u : Unit) => scan (fPt r.pts i) r.pts.length 0 = none) [6] (fun (_u : Unit) => []) [1] (fun (_u : Unit) => []) (0) ⟨Nat.zero_le _, rfl⟩ (by simp) (by simp) (fun k hk => ?_) (fun _u hf => ?_)
    · obtain ⟨hk, hj⟩ := hk
      by_cases hlt : k < r.pts.length
      · have hk1 : ((k : Int) - 1).toNat = k - 1 := by omega
        have hkm : k - 1 < r.pts.length := by omega
        have hsp := pointE_split r.pts k
        have hhit : ∀ c, pointE r.pts k = c → c ≠ 0 → R = ((k : Int), c) := fun c hc hc0 => by
          rw [kR, ← hj, scan_hit hlt (show fPt r.pts i k = some ((i : Int), (k : Int), c) by rw [← hc]; exact if_neg (by rw [hc]; exact hc0))]; rfl
        have hmiss : pointE r.pts k = 0 → scan (fPt r.pts i) (r.pts.length - (k + 1)) (k + 1) = scan (fPt r.pts i) r.pts.length 0 := fun hc => by
          rw [← hj, scan_miss hlt (if_pos hc)]
        have kk := keep (And.intro hsp (And.intro hhit hmiss))
        clear hsp hhit hmiss hj
        repeat' (first | (with_reducible first | refine awp_seq ?_ | refine awp_blockS ?_ | refine awp_skip ?_ | refine awp_ret ?_ | refine awp_region ?_ | refine awp_regionD (id := 25) 23 mixed (by decide +kernel) ?_ | refine awp_condM ?_ | refine And.intro ?_ ?_ | refine gQ_splitDN ?_ ?_ | refine gQ_splitD ?_ ?_ | refine gE_split ?_ ?_ | refine condM_splitD ?_ ?_ | refine condM_splitN ?_ ?_ | refine cw (rWithin_c _ _ _) ?_ | intro _) | (simp [*, hlt, hk1, hkm]))
        all_goals first
          | exact inI64 (by omega) (by omega)
          | omega
          | (obtain ⟨hsp, hhit, hmiss⟩ := kk; rw [hhit 2 ?_ (by decide)]; rw [hsp]; simp [*]; done)
          | (obtain ⟨hsp, hhit, hmiss⟩ := kk; rw [hhit 9 ?_ (by decide)]; rw [hsp]; simp only [*, Bool.and_true, Bool.true_and, if_true]; split <;> omega)
          | (obtain ⟨hsp, hhit, hmiss⟩ := kk; (refine loopK_normal _ _ _ _ _ (k + 1) _ ?_ (by first | omega | (dsimp only; omega) | (simp; omega)) ?_; (· refine ⟨by omega, hmiss ?_⟩; rw [hsp]; simp only [*, Bool.and_true, Bool.true_and, if_true]; split <;> omega); (refine le_of ?_ ?_ <;> first | trivial | (simp [*]; done))))
          | skip
      · repeat' (first | (with_reducible first | refine awp_seq ?_ | refine awp_exit ?_ | refine awp_region ?_ | refine awp_condM ?_ | intro _) | (simp [*, hlt]))
        all_goals (refine finW_intro () ?_ ?_; (· rw [← hj, scan_end _ (by omega)]); (refine le_of ?_ ?_ <;> first | trivial | (simp [*]; done)))
    · have pk := pts_ok hpos hpl hf
      have pc := pts_inc hf
      have kR : Keep (R = match scan (fOrd r.pts i) r.pts.length 0 with | some r => (r.2.1, r.2.2) | none => (0, 0)) := by rw [hf] at kR; exact kR
      clear hf
      repeat' (first | (with_reducible first | refine awp_seq ?_ | refine awp_region ?_ | intro _) | (simp [*]))
      refine awp_for3 (fun (k : Nat) => k ≤ r.pts.length ∧ scan (fOrd r.pts i) (r.pts.length - k) k = scan (fOrd r.pts i) r.pts.length 0) [6] (fun (k : Nat) => [(10, .w false false (.int .i64 k))]) [1] (fun (k : Nat) => []) (fun (k : Nat) => r.pts.length - k) (fun (_u : Unit) => scan (fOrd r.pts i) r.pts.length 0 = none) [] (fun (_u : Unit) => []) [1] (fun (_u : Unit) => []) (0) ⟨Nat.zero_le _, rfl⟩ (by simp) (by simp) (fun k hk => ?_) (fun _u hf => ?_)
      · obtain ⟨hk, hj⟩ := hk
        by_cases hlt : k < r.pts.length
        · have htm : ((k : Int) + 1).tmod r.pts.length = (((k + 1) % r.pts.length : Nat) : Int) := by
            rw [Int.tmod_eq_emod_of_nonneg (by omega)]; simp
          have hom := ord_mod pk pc hlt
          have hj2 : (k + 1) % r.pts.length < r.pts.length := Nat.mod_lt _ hpos
          have b1 := pk.at_ _ hlt
          have b2 := pk.at_ _ hj2
          have v1 := pk.val _ hlt
          have v2 := pk.val _ hj2
          have hne : r.pts ≠ [] := by rintro h0; rw [h0] at hpos; simp at hpos
          generalize (k + 1) % r.pts.length = j at *
          have cd := rMod_c ((nth r.pts j).at_ - (nth r.pts k).at_) 86400 (by decide) (by decide)
          have hd0 : 0 ≤ ((nth r.pts j).at_ - (nth r.pts k).at_) % 86400 ∧ ((nth r.pts j).at_ - (nth r.pts k).at_) % 86400 < 86400 := by omega
          generalize ((nth r.pts j).at_ - (nth r.pts k).at_) % 86400 = d at *
          have hhit : inOrderB r.pts k = false → R = ((k : Int), 23) := fun hc => by
            rw [kR, ← hj, scan_hit hlt (show fOrd r.pts i k = some ((i : Int), (k : Int), 23) by unfold fOrd; rw [hc]; rfl)]
          have hmiss : inOrderB r.pts k = true → scan (fOrd r.pts i) (r.pts.length - (k + 1)) (k + 1) = scan (fOrd r.pts i) r.pts.length 0 := fun hc => by
            rw [← hj, scan_miss hlt (show fOrd r.pts i k = none by unfold fOrd; rw [hc]; rfl)]
          have kk := keep (And.intro hom (And.intro hhit hmiss))
          clear hom hhit hmiss hj pk pc
          repeat' (first | (with_reducible first | refine awp_seq ?_ | refine awp_blockS ?_ | refine awp_skip ?_ | refine awp_ret ?_ | refine awp_region ?_ | refine awp_regionS (id := 30) [0, 1, 2, 3, 4, 5, 6, 7, 8, 9, 10, 11, 12, 13, 14, 15, 16] [17, 18] [[], [], [], [], [], [.new 0], [.new 0], [.new 0], [.new 0], [.new 0], [.new 0], [.new 0], [.new 0], [.new 0], [.new 0], [], []] [[.new 0], [.new 1]] mixed (by decide +kernel) ?_ | refine awp_condM ?_ | refine And.intro ?_ ?_ | refine gE_splitDN ?_ ?_ | refine condM_splitD ?_ ?_ | refine cw (cd) ?_ | intro _) | (simp [*, hlt, htm, hj2]))
          all_goals first
            | exact inI64 (by omega) (by omega)
            | omega
            | (obtain ⟨hom, hhit, hmiss⟩ := kk; rw [hhit ?_]; simp [*] at hom; first | done | (simp [hom]; done))
            | (obtain ⟨hom, hhit, hmiss⟩ := kk; (refine loopK_normal _ _ _ _ _ (k + 1) _ ?_ (by first | omega | (dsimp only; omega) | (simp; omega)) ?_; (· refine ⟨by omega, hmiss ?_⟩; simp [*] at hom; first | done | (simp [hom]; done)); (refine le_of ?_ ?_ <;> first | trivial | (simp [*]; done))))
            | skip
        · repeat' (first | (with_reducible first | refine awp_seq ?_ | refine awp_exit ?_ | refine awp_region ?_ | refine awp_condM ?_ | intro _) | (simp [*, hlt]))
          all_goals (refine finW_intro () ?_ ?_; (· rw [← hj, scan_end _ (by omega)]); (refine le_of ?_ ?_ <;> first | trivial | (simp [*]; done)))
      · repeat' (first | (with_reducible first | refine awp_seq ?_ | refine awp_ret ?_ | refine awp_region ?_ | refine And.intro ?_ ?_ | intro _) | (simp [*]))
        all_goals (rw [keep_def] at kR; rw [kR, hf])
end Go.Proofs.YtfpamehamllndaaGreatDoor

