/- Contracts of functions for this claim: lemmas alone. -/
import Derived.Test.YtmkahgnfoefnjaaP43
set_option linter.unusedSimpArgs false
set_option linter.unusedVariables false
namespace Go.Proofs.Ytmkahgnfoefnjaa
open Go Go.Fi

theorem short_bad (n : Net) (h : NetIn n) (x y : Int) (he : pE n x y ≠ 0) : RealCall Try.prog 21 [aNet n, .int .i64 x, .int .i64 y] (.tup [.sl 0 [], .int .i64 0, .int .i64 (pE n x y)]) true := by
  have co := open_c n h
  have pa := placeErr_c n x h.np
  have pb := placeErr_c n y h.np
  have cf := first3_c (netS n).2.2 (errUnless (winB x 0 (n.places.length - 1)) 6) (errUnless (winB y 0 (n.places.length - 1)) 6)
  unfold pE at *
  generalize (netS n).2.2 = ne at *
  generalize errUnless (winB x 0 (n.places.length - 1)) 6 = ex at *
  generalize errUnless (winB y 0 (n.places.length - 1)) 6 = ey at *
  generalize firstS [ne, ex, ey] = e at *
  clear h
  unfold aNet cNet at *
  refine realcall_intro Try.func21 (by kernel_rfl) rfl (Nat.le_of_ble_eq_true (by kernel_rfl)) ?_
  simp only [Try.results21, Try.ntmps21]
  repeat' (first | (with_reducible first | refine awp_seq ?_ | refine awp_blockS ?_ | refine awp_blockC ?_ | refine awp_blockR ?_ | refine awp_skip ?_ | refine awp_ret ?_ | refine awp_exit ?_ | refine awp_region ?_ | refine awp_regionD (id := 2) 9 mixed (by decide +kernel) ?_ | refine awp_regionD (id := 8) 12 mixed (by decide +kernel) ?_ | refine awp_condM ?_ | refine And.intro ?_ ?_ | refine gE_splitN ?_ ?_ | refine gE_split ?_ ?_ | refine gQ_splitN ?_ ?_ | refine gQ_split ?_ ?_ | refine gM_splitN ?_ ?_ | refine gM_split ?_ ?_ | refine condM_splitDN ?_ ?_ | refine condM_splitD ?_ ?_ | refine condM_splitN ?_ ?_ | refine condM_split ?_ ?_ | refine condM_any ?_ ?_ | refine cw (co) ?_ | refine cw (pa) ?_ | refine cw (pb) ?_ | refine cw (cf) ?_ | intro _) | (simp [*, he]))
theorem short_none (n : Net) (h : NetIn n) (x y : Int) (a b : Nat) (ok : PairOk n x y a b) (he : pE n x y = 0) (hn : nth (growS fLen n a 0).l b = -1) : RealCall Try.prog 21 [aNet n, .int .i64 x, .int .i64 y] (.tup [.sl 0 [], .int .i64 0, .int .i64 12]) true := by
  have co := open_c n h
  have pa := placeErr_c n x h.np
  have pb := placeErr_c n y h.np
  have cf := first3_c (netS n).2.2 (errUnless (winB x 0 (n.places.length - 1)) 6) (errUnless (winB y 0 (n.places.length - 1)) 6)
  have hi := growS_inv ok.ok (along_len ok.ok) ok.la (Int.le_refl 0) (by omega)
  have ch : RealCall Try.prog 41 [aNet n, .int .i64 a] (treeP n (growS fLen n a 0)) true := heights_c n ok.ok a ok.la
  have l0 := hi.ll
  have hb := ok.lb
  obtain rfl : x = a := ok.fa
  obtain rfl : y = b := ok.fb
  unfold pE at he
  rw [he] at cf
  generalize (netS n).2.2 = ne at *
  generalize errUnless (winB (a : Int) 0 (n.places.length - 1)) 6 = ex at *
  generalize errUnless (winB (b : Int) 0 (n.places.length - 1)) 6 = ey at *
  clear hi ok h he
  generalize growS fLen n a 0 = s0 at *
  unfold treeP at ch
  unfold aNet cNet at *
  refine realcall_intro Try.func21 (by kernel_rfl) rfl (Nat.le_of_ble_eq_true (by kernel_rfl)) ?_
  simp only [Try.results21, Try.ntmps21]
  repeat' (first | (with_reducible first | refine awp_seq ?_ | refine awp_blockS ?_ | refine awp_blockC ?_ | refine awp_blockR ?_ | refine awp_skip ?_ | refine awp_ret ?_ | refine awp_exit ?_ | refine awp_region ?_ | refine awp_regionD (id := 2) 9 mixed (by decide +kernel) ?_ | refine awp_regionD (id := 8) 12 mixed (by decide +kernel) ?_ | refine awp_condM ?_ | refine And.intro ?_ ?_ | refine gE_splitN ?_ ?_ | refine gE_split ?_ ?_ | refine gQ_splitN ?_ ?_ | refine gQ_split ?_ ?_ | refine gM_splitN ?_ ?_ | refine gM_split ?_ ?_ | refine condM_splitDN ?_ ?_ | refine condM_splitD ?_ ?_ | refine condM_splitN ?_ ?_ | refine condM_split ?_ ?_ | refine condM_any ?_ ?_ | refine cw (co) ?_ | refine cw (pa) ?_ | refine cw (pb) ?_ | refine cw (cf) ?_ | refine cw (ch) ?_ | intro _) | (simp [*, hb, l0, hn]))
  all_goals try omega
def hE (n : Net) (x : Int) : Int := firstS [(netS n).2.2, errUnless (winB x 0 (n.places.length - 1)) 6]
theorem ints_c (l : List Int) (h : l.length < 100000) : RealCall Try.prog 15 [.sl l.length (ints l), .sl l.length (ints l)] (.bool true) true := by
  refine realcall_intro Try.func15 (by kernel_rfl) rfl (Nat.le_of_ble_eq_true (by kernel_rfl)) ?_
  simp only [Try.results15, Try.ntmps15]
  repeat' (first | (with_reducible first | refine awp_seq ?_ | refine awp_blockS ?_ | refine awp_blockC ?_ | refine awp_blockR ?_ | refine awp_skip ?_ | refine awp_ret ?_ | refine awp_exit ?_ | refine awp_region ?_ | refine awp_regionD (id := 6) 9 mixed (by decide +kernel) ?_ | refine awp_condM ?_ | refine And.intro ?_ ?_ | refine gE_splitN ?_ ?_ | refine gE_split ?_ ?_ | refine gQ_splitN ?_ ?_ | refine gQ_split ?_ ?_ | refine gM_splitN ?_ ?_ | refine gM_split ?_ ?_ | refine condM_splitDN ?_ ?_ | refine condM_splitD ?_ ?_ | refine condM_splitN ?_ ?_ | refine condM_split ?_ ?_ | refine condM_any ?_ ?_ | intro _) | (simp [*]))
  refine awp_for3 (fun (k : Nat) => k ≤ l.length) [0, 1] (fun (k : Nat) => [(5, .w false false (.int .i64 k))]) [] (fun (k : Nat) => []) (fun (k : Nat) => l.length - k) (fun (_u : Unit) => True) [] (fun (_u : Unit) => []) [] (fun (_u : Unit) => []) (0) (Nat.zero_le _) (by simp) (by simp) (fun k hk => ?_) (fun _u hf => ?_)
  · by_cases hlt : k < l.length
    · repeat' (first | (with_reducible first | refine awp_seq ?_ | refine awp_blockS ?_ | refine awp_blockC ?_ | refine awp_blockR ?_ | refine awp_skip ?_ | refine awp_ret ?_ | refine awp_exit ?_ | refine awp_region ?_ | refine awp_regionD (id := 6) 9 mixed (by decide +kernel) ?_ | refine awp_condM ?_ | refine And.intro ?_ ?_ | refine gE_splitN ?_ ?_ | refine gE_split ?_ ?_ | refine gQ_splitN ?_ ?_ | refine gQ_split ?_ ?_ | refine gM_splitN ?_ ?_ | refine gM_split ?_ ?_ | refine condM_splitDN ?_ ?_ | refine condM_splitD ?_ ?_ | refine condM_splitN ?_ ?_ | refine condM_split ?_ ?_ | refine condM_any ?_ ?_ | intro _) | (simp [*, hlt]))
      all_goals first
        | exact inI64 (by omega) (by omega)
        | omega
        | (refine loopK_normal _ _ _ _ _ (k + 1) _ ?_ (by first | omega | (dsimp only; omega) | (simp; omega)) ?_; (· omega); (refine le_of ?_ ?_ <;> first | trivial | (simp [*]; done)))
        | skip
    · have hke : k = l.length := by omega
      subst hke
      repeat' (first | (with_reducible first | refine awp_seq ?_ | refine awp_blockS ?_ | refine awp_blockC ?_ | refine awp_blockR ?_ | refine awp_skip ?_ | refine awp_ret ?_ | refine awp_exit ?_ | refine awp_region ?_ | refine awp_regionD (id := 6) 9 mixed (by decide +kernel) ?_ | refine awp_condM ?_ | refine And.intro ?_ ?_ | refine gE_splitN ?_ ?_ | refine gE_split ?_ ?_ | refine gQ_splitN ?_ ?_ | refine gQ_split ?_ ?_ | refine gM_splitN ?_ ?_ | refine gM_split ?_ ?_ | refine condM_splitDN ?_ ?_ | refine condM_splitD ?_ ?_ | refine condM_splitN ?_ ?_ | refine condM_split ?_ ?_ | refine condM_any ?_ ?_ | intro _) | (simp [*]))
      (refine finW_intro () ?_ ?_; (· trivial); (refine le_of ?_ ?_ <;> first | trivial | (simp [*]; done)))
  · repeat' (first | (with_reducible first | refine awp_seq ?_ | refine awp_blockS ?_ | refine awp_blockC ?_ | refine awp_blockR ?_ | refine awp_skip ?_ | refine awp_ret ?_ | refine awp_exit ?_ | refine awp_region ?_ | refine awp_regionD (id := 6) 9 mixed (by decide +kernel) ?_ | refine awp_condM ?_ | refine And.intro ?_ ?_ | refine gE_splitN ?_ ?_ | refine gE_split ?_ ?_ | refine gQ_splitN ?_ ?_ | refine gQ_split ?_ ?_ | refine gM_splitN ?_ ?_ | refine gM_split ?_ ?_ | refine condM_splitDN ?_ ?_ | refine condM_splitD ?_ ?_ | refine condM_splitN ?_ ?_ | refine condM_split ?_ ?_ | refine condM_any ?_ ?_ | intro _) | (simp [*]))
/-- the heights of all places prove themselves -/
theorem ch_grow {n : Net} (h : NetOk n) {a b : Nat} (la : a < n.places.length) (lb : b < n.places.length) (hp : pE n a b = 0) (hn : nth (growS fLen n a 0).l b ≠ -1) : chS n a b (growS fLen n a 0).l = (nth (growS fLen n a 0).l b, 0) := by
  have hx := growS_fixed h (along_len h) la (Int.le_refl 0) (by omega)
  have hl := hx.inv.ll
  have hA : badA (growS fLen n a 0).l = false := anyD_all (fun k hk => by
    have := hx.inv.small h (i := k) (by omega)
    unfold badN winB
    simp; omega) _ 0 rfl (Nat.zero_le _)
  have hR : anyD (badR fLen (growS fLen n a 0).l) n.roads 0 = false := anyD_all (fun k hk => by
    have hr := hx.road k hk
    unfold badR
    by_cases h1 : nth (growS fLen n a 0).l (nth n.roads k).frm.toNat = -1
    · rw [decide_eq_true h1]; rfl
    · have hf : (nth n.roads k).frm.toNat < n.places.length := by have := (h.road k hk).frm; omega
      have := hx.inv.small h hf
      obtain ⟨g1, g2⟩ := hr (by omega)
      rw [decide_eq_false h1, decide_eq_false (show ¬ nth (growS fLen n a 0).l (nth n.roads k).to.toNat = -1 by omega), decide_eq_false (show ¬ fLen (nth n.roads k) (nth (growS fLen n a 0).l (nth n.roads k).frm.toNat) < nth (growS fLen n a 0).l (nth n.roads k).to.toNat by omega)]; rfl) _ 0 rfl (Nat.zero_le _)
  have h0 : nth (growS fLen n a 0).l a = 0 := (tr_grow h (along_len h) len_mono la (Int.le_refl 0) (by omega)).la
  rw [ch_rch hp]
  unfold rchS chkS
  rw [if_neg (by simp [hl]), hA, if_neg (by decide), if_neg (by simp [h0]), hR, if_neg (by decide), if_neg hn]
end Go.Proofs.Ytmkahgnfoefnjaa
