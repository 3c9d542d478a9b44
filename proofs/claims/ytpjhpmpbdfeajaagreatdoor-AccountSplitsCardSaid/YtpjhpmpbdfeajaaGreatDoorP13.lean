/- Contracts of functions for this claim: lemmas alone. -/
import Derived.Test.YtpjhpmpbdfeajaaGreatDoorP9
import Derived.Lib.ItoaLen
import Derived.Test.YtpjhpmpbdfeajaaGreatDoorP7
import Derived.Test.YtpjhpmpbdfeajaaGreatDoorLt
import Derived.Deep.QuietTactic
import Derived.WalkKit
set_option linter.unusedSimpArgs false
set_option linter.unusedVariables false
namespace Go.Proofs.YtpjhpmpbdfeajaaGreatDoor
open Go Go.Fi
set_option maxRecDepth 20000

/-! ### the text of an entry -/
theorem lens_le (c : Nat) : ∀ l : List (List UInt8), (∀ x ∈ l, x.length ≤ c) → Lib.lens l ≤ l.length * c
  | [], _ => by simp [Lib.lens]
  | x :: r, h => by
    have h1 := h x (by simp)
    have h2 := lens_le c r (fun z hz => h z (List.mem_cons_of_mem _ hz))
    simp only [Lib.lens, List.map_cons, List.sum_cons, List.length_cons, Nat.add_mul, Nat.one_mul] at h2 ⊢
    omega
theorem join_le (sep : List UInt8) (c : Nat) (l : List (List UInt8)) (h : ∀ x ∈ l, x.length ≤ c) : (Lib.join l sep).length ≤ l.length * c + sep.length * l.length := by
  cases l with
  | nil => simp [Lib.join]
  | cons x r =>
    have h1 := lens_le c _ h
    have h2 : sep.length * r.length ≤ sep.length * (x :: r).length := Nat.mul_le_mul_left _ (by simp)
    rw [Lib.join_length]
    omega
theorem dec_size {n : Int} (h0 : -9223372036854775808 ≤ n) (h1 : n ≤ 9223372036854775807) : (dec n).size ≤ 21 := by
  have := Lib.itoa_length_le n h0 h1
  show (Lib.itoa n).toArray.size ≤ 21
  rw [List.size_toArray]; exact this
structure EntryT (e : Entry) : Prop where
  note : e.note.size < 1000000
  len : e.lines.length < 10000
  accs : ∀ k, k < e.lines.length → (nth e.lines k).acc.size < 1000000
  dlo : -9223372036854775808 ≤ e.date
  dhi : e.date ≤ 9223372036854775807
  lo : ∀ k, k < e.lines.length → -9223372036854775808 ≤ (nth e.lines k).amt
  hi : ∀ k, k < e.lines.length → (nth e.lines k).amt ≤ 9223372036854775807
def lineT (y : Line) : ByteArray := (y.acc ++ ⟨#[61]⟩) ++ dec y.amt
def wordsT (e : Entry) (k : Nat) : List ByteArray := dec e.date :: e.note :: (e.lines.take k).map lineT
def formatS (e : Entry) : ByteArray := joinB (wordsT e e.lines.length) ⟨#[32]⟩
theorem wordsT_succ (e : Entry) (k : Nat) (h : k < e.lines.length) : wordsT e (k + 1) = wordsT e k ++ [lineT (nth e.lines k)] := by
  unfold wordsT; rw [take_succ_nth _ _ h]; simp
theorem wordsT_len (e : Entry) (k : Nat) (h : k ≤ e.lines.length) : (wordsT e k).length = k + 2 := by
  unfold wordsT; simp [Nat.min_eq_left h]
theorem mem_nth {α : Type} [Inhabited α] {l : List α} {x : α} (h : x ∈ l) : ∃ k, k < l.length ∧ nth l k = x := by
  obtain ⟨k, hk, rfl⟩ := List.getElem_of_mem h
  exact ⟨k, hk, by simp [nth, List.getD_eq_getElem?_getD, List.getElem?_eq_getElem hk]⟩
theorem wordsT_size {e : Entry} (h : EntryT e) : ∀ x ∈ wordsT e e.lines.length, x.size ≤ 1000100 := by
  intro x hx
  unfold wordsT at hx
  rw [List.take_length] at hx
  rcases List.mem_cons.1 hx with rfl | hx
  · have := dec_size h.dlo h.dhi; omega
  · rcases List.mem_cons.1 hx with rfl | hx
    · have := h.note; omega
    · obtain ⟨y, hy, rfl⟩ := List.mem_map.1 hx
      obtain ⟨k, hk, rfl⟩ := mem_nth hy
      have h1 := h.accs k hk
      have h2 := dec_size (h.lo k hk) (h.hi k hk)
      unfold lineT
      rw [ByteArray.size_append, ByteArray.size_append]
      have e1 : (⟨#[61]⟩ : ByteArray).size = 1 := rfl
      omega
set_option maxHeartbeats 4000000 in
theorem format_c (e : Entry) (h : EntryT e) : RealCall Tryz.prog 17 [.agg (cEntry e)] (.str (formatS e)) true := by
  have hlen := h.len
  have cj := join_c (wordsT e e.lines.length) ⟨#[32]⟩ (by rw [wordsT_len _ _ (Nat.le_refl _)]; omega) (by
    have h1 := join_le [32] 1000100 ((wordsT e e.lines.length).map (·.data.toList)) (fun x hx => by
      obtain ⟨y, hy, rfl⟩ := List.mem_map.1 hx
      have := wordsT_size h y hy
      simpa using this)
    rw [List.length_map, wordsT_len _ _ (Nat.le_refl _)] at h1
    have h2 : (e.lines.length + 2) * 1000100 ≤ 10002 * 1000100 := Nat.mul_le_mul (by omega) (Nat.le_refl _)
    have h4 : ([32] : List UInt8).length = 1 := rfl
    rw [h4] at h1
    have h3 : (⟨#[32]⟩ : ByteArray).data.toList = [32] := rfl
    rw [h3]
    omega)
  have c1 := itoa_c e.date h.dlo h.dhi
  have kh := keep h
  have kj := keep cj
  clear cj
  have hl0 := wordsT_len e 0 (Nat.zero_le _)
  have hw0 : wordsT e 0 = [dec e.date, e.note] := by simp [wordsT]
  unfold formatS cEntry
  refine realcall_intro Tryz.func17 (by kernel_rfl) rfl (Nat.le_of_ble_eq_true (by kernel_rfl)) ?_
  simp only [Tryz.results17, Tryz.ntmps17]
  repeat' (first | (with_reducible first | refine awp_seq ?_ | refine awp_blockS ?_ | refine awp_blockC ?_ | refine awp_blockR ?_ | refine awp_skip ?_ | refine awp_ret ?_ | refine awp_exit ?_ | refine awp_region ?_ | refine awp_regionD (id := 1) 7 mixed (by decide +kernel) ?_ | refine awp_regionD (id := 5) 9 mixed (by decide +kernel) ?_ | refine awp_condM ?_ | refine And.intro ?_ ?_ | apply gQ_merge | apply gE_merge | exact EqV_w | exact EqE_w | exact EqV_ptr | exact EqE_ptr | exact EqV_msl | exact EqE_msl | exact EqV_agg | exact EqE_agg | exact EqV_fn | exact EqE_fn | exact EqV_gd | exact EqE_gd | refine gM_splitN ?_ ?_ | refine gM_split ?_ ?_ |  refine condM_splitDN ?_ ?_ | refine condM_splitD ?_ ?_ | refine condM_splitN ?_ ?_ | refine condM_split ?_ ?_ | refine condM_any ?_ ?_ | refine cw (c1) ?_ | intro _) | (simp [*, repl]) | (refine cw_eq (c1) ?_ ?_; (· (simp [*]; done))))
  refine awp_for4 2 (fun (k : Nat) => k ≤ e.lines.length) [13, 14] (fun (k : Nat) => [(15, .w false false (.int .i64 k)), (3, .msl 1 (k + 2) 1 0 (k + 2))]) [0] (fun (k : Nat) => [(1, stA (wordsT e k))]) (fun (k : Nat) => e.lines.length - k) (fun (_u : Unit) => True) [] (fun (_u : Unit) => [(3, .msl 1 (e.lines.length + 2) 1 0 (e.lines.length + 2))]) [] (fun (_u : Unit) => [(1, stA (wordsT e e.lines.length))]) (0) (Nat.zero_le _) (le_gen [] (by simp [hw0, stA, strP]) (by simp [hw0, stA, strP])) (fun k hk => ?_) (fun _u hf => ?_)
  · clear hl0 hw0 kj c1
    by_cases hlt : k < e.lines.length
    · have h := show EntryT e from kh
      have c2 := itoa_c (nth e.lines k).amt (h.lo k hlt) (h.hi k hlt)
      have hz := h.accs k hlt
      have hd := dec_size (h.lo k hlt) (h.hi k hlt)
      have ks := keep (wordsT_succ e k hlt)
      have hwl := wordsT_len e k hk
      have hs1 : (⟨#[61]⟩ : ByteArray).size = 1 := rfl
      have kl : Keep ((nth e.lines k).acc ++ ⟨#[61]⟩ ++ dec (nth e.lines k).amt = lineT (nth e.lines k)) := keep rfl
      clear kh h
      repeat' (first | (with_reducible first | refine awp_seq ?_ | refine awp_blockS ?_ | refine awp_blockC ?_ | refine awp_blockR ?_ | refine awp_skip ?_ | refine awp_ret ?_ | refine awp_exit ?_ | refine awp_region ?_ | refine awp_regionD (id := 1) 7 mixed (by decide +kernel) ?_ | refine awp_regionD (id := 5) 9 mixed (by decide +kernel) ?_ | refine awp_condM ?_ | refine And.intro ?_ ?_ | apply gQ_merge | apply gE_merge | exact EqV_w | exact EqE_w | exact EqV_ptr | exact EqE_ptr | exact EqV_msl | exact EqE_msl | exact EqV_agg | exact EqE_agg | exact EqV_fn | exact EqE_fn | exact EqV_gd | exact EqE_gd | refine gM_splitN ?_ ?_ | refine gM_split ?_ ?_ |  refine condM_splitDN ?_ ?_ | refine condM_splitD ?_ ?_ | refine condM_splitN ?_ ?_ | refine condM_split ?_ ?_ | refine condM_any ?_ ?_ | refine cw (c2) ?_ | intro _) | (simp [*, hlt, cLine, hwl]) | (refine cw_eq (c2) ?_ ?_; (· (simp [*]; done))))
      all_goals try first | exact inI64 (by omega) (by omega) | omega
      all_goals (refine loopK_normal _ _ _ _ _ (k + 1) _ ?_ (by first | omega | (dsimp only; omega) | (simp; omega)) ?_; (· omega); (refine le_gen [] ?_ ?_ <;> first | trivial | (simp [*, (show _ = lineT _ from kl), (show wordsT e (k + 1) = _ from ks)]; done)))
    · have hke : k = e.lines.length := by omega
      subst hke
      clear kh
      repeat' (first | (with_reducible first | refine awp_seq ?_ | refine awp_blockS ?_ | refine awp_blockC ?_ | refine awp_blockR ?_ | refine awp_skip ?_ | refine awp_ret ?_ | refine awp_exit ?_ | refine awp_region ?_ | refine awp_regionD (id := 1) 7 mixed (by decide +kernel) ?_ | refine awp_regionD (id := 5) 9 mixed (by decide +kernel) ?_ | refine awp_condM ?_ | refine And.intro ?_ ?_ | apply gQ_merge | apply gE_merge | exact EqV_w | exact EqE_w | exact EqV_ptr | exact EqE_ptr | exact EqV_msl | exact EqE_msl | exact EqV_agg | exact EqE_agg | exact EqV_fn | exact EqE_fn | exact EqV_gd | exact EqE_gd | refine gM_splitN ?_ ?_ | refine gM_split ?_ ?_ |  refine condM_splitDN ?_ ?_ | refine condM_splitD ?_ ?_ | refine condM_splitN ?_ ?_ | refine condM_split ?_ ?_ | refine condM_any ?_ ?_ | intro _) | (simp [*]))
      all_goals (refine finW_intro () ?_ ?_; (· trivial); (refine le_gen [] ?_ ?_ <;> first | trivial | (simp [*, List.take_length]; done)))
  · clear hl0 hw0 kh c1
    have hwl := wordsT_len e e.lines.length (Nat.le_refl _)
    rw [hwl] at kj
    repeat' (first | (with_reducible first | refine awp_seq ?_ | refine awp_blockS ?_ | refine awp_blockC ?_ | refine awp_blockR ?_ | refine awp_skip ?_ | refine awp_ret ?_ | refine awp_exit ?_ | refine awp_region ?_ | refine awp_regionD (id := 1) 7 mixed (by decide +kernel) ?_ | refine awp_regionD (id := 5) 9 mixed (by decide +kernel) ?_ | refine awp_condM ?_ | refine And.intro ?_ ?_ | apply gQ_merge | apply gE_merge | exact EqV_w | exact EqE_w | exact EqV_ptr | exact EqE_ptr | exact EqV_msl | exact EqE_msl | exact EqV_agg | exact EqE_agg | exact EqV_fn | exact EqE_fn | exact EqV_gd | exact EqE_gd | refine gM_splitN ?_ ?_ | refine gM_split ?_ ?_ |  refine condM_splitDN ?_ ?_ | refine condM_splitD ?_ ?_ | refine condM_splitN ?_ ?_ | refine condM_split ?_ ?_ | refine condM_any ?_ ?_ | refine cw ((show RealCall _ _ _ _ _ from kj)) ?_ | intro _) | (simp [*]) | (refine cw_eq ((show RealCall _ _ _ _ _ from kj)) ?_ ?_; (· (simp [*]; done))))
end Go.Proofs.YtpjhpmpbdfeajaaGreatDoor
namespace Go.Proofs.YtpjhpmpbdfeajaaGreatDoor
open Go Go.Fi Go.RowKit Go.Shelf Go.Sort
set_option maxRecDepth 20000

/-! ### the sort by rests -/
noncomputable def siT : TypeInfo := (Tryz.prog.info? 22).get (by kernel_rfl)
noncomputable def siE : TypeInfo := (Tryz.prog.info? 3).get (by kernel_rfl)
theorem siK (n : Nat) (h2 : 2 ≤ n) : Lib.swapperK n siE 2 = 5 := by
  have a : siE.hasPointers = false := by kernel_rfl
  have b : siE.bytes = 8 := by kernel_rfl
  have c : (n == 0) = false := by simp; omega
  have d : (n == 1) = false := by simp; omega
  simp [Lib.swapperK, a, b, c, d]
theorem siK1 (n : Nat) (h1 : n ≤ 1) : Lib.swapperK n siE 2 = n + 1 := by
  rcases Nat.eq_zero_or_pos n with h | h
  · subst h; simp [Lib.swapperK]
  · obtain rfl : n = 1 := by omega
    simp [Lib.swapperK]
theorem sortC : SortC Tryz.prog 80 22 where
  ent := ⟨_, Tryz.func80, by kernel_rfl, by kernel_rfl⟩
  small m g lb lt blk off c d w h2 h20 eg hless hH hblk :=
    Any.sort_SliceStable_small sortSLaysGt_n8 22 3 siT siE (by kernel_rfl) (by kernel_rfl) (by kernel_rfl) (by kernel_rfl) 2 (fun _ => by kernel_rfl) (by kernel_rfl) (fun _ => by kernel_rfl) (fE m) (fun _ => rfl) lt g lb eg blk off c d h2 h20 142 (by rw [siK _ h2]; kernel_rfl) true
      (fun args W => run_callFunc_extern Tryz.func142 (by kernel_rfl) (by kernel_rfl) (by kernel_rfl) (e := Extern.ReflectliteSwapper.swap true) (by kernel_rfl) args W) w hless hH hblk
  tiny p n c g lb w h1 :=
    Any.sort_SliceStable_tiny sortSLaysGt_n8 22 3 siT siE (by kernel_rfl) (by kernel_rfl) (by kernel_rfl) (by kernel_rfl) 2 (fun _ => by kernel_rfl) p n c h1 (138 + n) (by
      rw [siK1 _ h1]
      rcases Nat.eq_zero_or_pos n with h | h
      · subst h; kernel_rfl
      · obtain rfl : n = 1 := by omega
        kernel_rfl) (.func g) #[] lb w
set_option maxHeartbeats 4000000 in
theorem lessC (n : Nat) (hn : n ≤ 1000) (rs : List Int) : LessC Tryz.prog 81 n rs := by
  refine ⟨⟨_, Tryz.func81, by kernel_rfl, by kernel_rfl⟩, ?_⟩
  intro bW bV bR bO cR cO W o hw hv hr ho hb i k hi hk
  have r1 := hr (o i) (hb i hi)
  have r2 := hr (o k) (hb k hk)
  have o1 := ho i hi
  have o2 := ho k hk
  have b1 := hb i hi
  have b2 := hb k hk
  generalize o i = x at *
  generalize o k = y at *
  generalize rs.getD x 0 = u at *
  generalize rs.getD y 0 = v at *
  clear hr ho hb
  go_enter Tryz.func81, Tryz.ntmps81
  go_wp2
  go_quiet (fail)
  go_wp2
  go_ret
  exact ⟨rfl, nq, rfl⟩
end Go.Proofs.YtpjhpmpbdfeajaaGreatDoor

