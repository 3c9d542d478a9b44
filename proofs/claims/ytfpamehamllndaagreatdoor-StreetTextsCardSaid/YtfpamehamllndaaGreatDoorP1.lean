/- Contracts of functions for this claim: lemmas alone. -/
import Derived.Test.YtfpamehamllndaaGreatDoorPTypes
import Derived.Lib.LaidTab
import Derived.Lib.ItoaNum
import Derived.Test.YtfpamehamllndaaGreatDoorLe
set_option linter.unusedSimpArgs false
set_option linter.unusedVariables false
namespace Go.Proofs.YtfpamehamllndaaGreatDoor
open Go Go.Fi Go.RowKit
set_option maxRecDepth 20000

/-! ### what the package-level variables hold -/
theorem var_keep {P : Program} {w w' : World} {name : String} {cs : Array Value} (h : w.var? P name = some cs) (hb : Below w.heap.size w w') : w'.var? P name = some cs := by
  unfold World.var? at h ⊢
  cases hg : P.globalNamed name with
  | none => rw [hg] at h; cases h
  | some g =>
    rw [hg] at h
    simp only [Option.bind_some] at h ⊢
    have hlt : g < w.heap.size := by
      rcases Nat.lt_or_ge g w.heap.size with h1 | h1
      · exact h1
      · rw [Array.getElem?_eq_none h1] at h; cases h
    rw [hb.block g hlt]; exact h
structure LaidOk (w : World) : Prop where
  maxLen : ∃ m, w.var? Tryz.prog "internal/bytealg.MaxLen" = some #[.int .i64 m]
  pow : w.var? Tryz.prog "internal/strconv.uint64pow10" = some (Lib.pow10Tab.map fun z => Value.int .u64 z).toArray
  esyn : ∃ t p, w.var? Tryz.prog "strconv.ErrSyntax" = some #[.iface t p]
  erng : ∃ t p, w.var? Tryz.prog "strconv.ErrRange" = some #[.iface t p]
instance : LaidW where
  ok := LaidOk
  keep h hb := ⟨h.maxLen.imp fun _ e => var_keep e hb, var_keep h.pow hb, h.esyn.imp fun _ e => e.imp fun _ e => var_keep e hb, h.erng.imp fun _ e => e.imp fun _ e => var_keep e hb⟩
end Go.Proofs.YtfpamehamllndaaGreatDoor
namespace Go.Proofs.YtfpamehamllndaaGreatDoor
open Go Go.Fi

structure Pt where
  at_ : Int
  lo : Int
  hi : Int
  deriving Inhabited, DecidableEq
structure Road where
  name : ByteArray
  frm : Int
  to : Int
  metres : Int
  pts : List Pt
  deriving Inhabited
structure Net where
  places : List ByteArray
  roads : List Road
  deriving Inhabited

def cPt (p : Pt) : List PV := [.int .i64 p.at_, .int .i64 p.lo, .int .i64 p.hi]
attribute [simp] cPt
def cPts (l : List Pt) : List PV := l.flatMap cPt
def cRoad (r : Road) : List PV := [.str r.name, .int .i64 r.frm, .int .i64 r.to, .int .i64 r.metres, .sl r.pts.length (cPts r.pts)]
def cRoads (l : List Road) : List PV := l.flatMap cRoad
def strs (l : List ByteArray) : List PV := l.map .str
@[simp] theorem strs_len (l : List ByteArray) : (strs l).length = l.length := by simp [strs]
@[simp] theorem strs_get (l : List ByteArray) (k : Nat) (h : k < l.length) : nthP (strs l) k = .str (nth l k) := nthP_map _ l k h
def cNet (n : Net) : List PV := [.sl n.places.length (strs n.places), .sl n.roads.length (cRoads n.roads)]

@[simp] theorem cPts_len (l : List Pt) : (cPts l).length = l.length * 3 := flatMap_len cPt 3 (fun _ => rfl) l
@[simp] theorem cPts_drop (l : List Pt) (k : Nat) (h : k < l.length) : ((cPts l).drop (k * 3)).take 3 = cPt (nth l k) := flatMap_drop cPt 3 (fun _ => rfl) l k h
@[simp] theorem cPts_0 (l : List Pt) (k : Nat) (h : k < l.length) : nthP (cPts l) (k * 3) = .int .i64 (nth l k).at_ := flatMap_get cPt 3 (fun _ => rfl) l k 0 h (by omega)
@[simp] theorem cPts_1 (l : List Pt) (k : Nat) (h : k < l.length) : nthP (cPts l) (k * 3 + 1) = .int .i64 (nth l k).lo := flatMap_get cPt 3 (fun _ => rfl) l k 1 h (by omega)
@[simp] theorem cPts_2 (l : List Pt) (k : Nat) (h : k < l.length) : nthP (cPts l) (k * 3 + 2) = .int .i64 (nth l k).hi := flatMap_get cPt 3 (fun _ => rfl) l k 2 h (by omega)

def errUnless (ok : Bool) (e : Int) : Int := if ok then 0 else e

theorem unless_c (ok : Bool) (e : Int) : RealCall Tryz.prog 62 [.bool ok, .int .i64 e] (.int .i64 (errUnless ok e)) true := by
  refine realcall_intro Tryz.func62 rfl rfl (Nat.le_of_ble_eq_true rfl) ?_
  simp only [Tryz.results62, Tryz.ntmps62]
  repeat' (first | (with_reducible first | refine awp_seq ?_ | refine awp_block ?_ | refine awp_skip ?_ | refine awp_ret ?_ | refine awp_exit ?_ | refine awp_region ?_ | refine awp_condM ?_ | refine And.intro ?_ ?_ | refine gM_splitN ?_ ?_ | refine gM_split ?_ ?_ | refine condM_splitDN ?_ ?_ | refine condM_splitD ?_ ?_ | refine condM_splitN ?_ ?_ | refine condM_split ?_ ?_ | refine condM_any ?_ ?_ | intro _) | (simp))
  all_goals simp_all [errUnless]

theorem mixed : Tryz.prog.follows .mixedOrders = true := by kernel_rfl
theorem tdiv_bd (n b M : Int) (h : 0 < b) (h1 : -M ≤ n) (h2 : n ≤ M) : -M ≤ n.tdiv b ∧ n.tdiv b ≤ M := by
  have hb := Int.natAbs_tdiv_le_natAbs n b
  omega

def ceilS (n b : Int) : Int := n.tdiv b + if 0 < n.tmod b then 1 else 0
theorem ceilS_bd (n b M : Int) (h : 0 < b) (h1 : -M ≤ n) (h2 : n ≤ M) : -M ≤ ceilS n b ∧ ceilS n b ≤ M + 1 := by
  have := tdiv_bd n b M h h1 h2
  unfold ceilS; split <;> omega
theorem ceil_c (n b : Int) (h0 : 0 < b) (h1 : -1000000000000 ≤ n) (h2 : n ≤ 1000000000000) : RealCall Tryz.prog 65 [.int .i64 n, .int .i64 b] (.int .i64 (ceilS n b)) true := by
  have hd := tdiv_bd n b _ h0 h1 h2
  refine realcall_intro Tryz.func65 (by kernel_rfl) rfl (Nat.le_of_ble_eq_true (by kernel_rfl)) ?_
  simp only [Tryz.results65, Tryz.ntmps65]
  repeat' (first | (with_reducible first | refine awp_seq ?_ | refine awp_block ?_ | refine awp_skip ?_ | refine awp_ret ?_ | refine awp_exit ?_ | refine awp_region ?_ | refine awp_condM ?_ | refine And.intro ?_ ?_ | refine gM_splitN ?_ ?_ | refine gM_split ?_ ?_ | refine condM_splitDN ?_ ?_ | refine condM_splitD ?_ ?_ | refine condM_splitN ?_ ?_ | refine condM_split ?_ ?_ | refine condM_any ?_ ?_ | intro _) | (simp))
  all_goals first | exact inI64 (by omega) (by omega) | omega | (simp_all [ceilS]; done) | (unfold ceilS; rw [if_neg (by omega)]; omega)

def gapS (a b : Int) : Int := if b - a ≤ 0 then b - a + 86400 else b - a
@[simp] theorem cPts_ends (l : List Pt) (k : Nat) (h : k < l.length) : ((cPts l).drop (k * 3 + 1)).take 2 = [.int .i64 (nth l k).lo, .int .i64 (nth l k).hi] := flatMap_sub cPt 3 (fun _ => rfl) l k 1 2 h (by omega)
theorem gapS_bd {a b : Int} (h1 : 0 ≤ a ∧ a < 86400) (h2 : 0 ≤ b ∧ b < 86400) : 0 < gapS a b := by unfold gapS; split <;> omega
theorem behind_c (l : List Pt) (i : Nat) (h : i < l.length) (hl : l.length < 1000) (hb : ∀ k, k < l.length → 0 ≤ (nth l k).at_ ∧ (nth l k).at_ < 86400) :
    RealCall Tryz.prog 64 [.sl l.length (cPts l), .int .i64 i] (.tup [.agg (cPt (nth l ((i + 1) % l.length))), .int .i64 (gapS (nth l i).at_ (nth l ((i + 1) % l.length)).at_)]) true := by
  have htm : ((i : Int) + 1).tmod l.length = (((i + 1) % l.length : Nat) : Int) := by
    rw [Int.tmod_eq_emod_of_nonneg (by omega)]; simp
  have hm : (i + 1) % l.length < l.length := Nat.mod_lt _ (by omega)
  have b1 := hb _ h
  have b2 := hb _ hm
  generalize (i + 1) % l.length = j at *
  have e1 := cPts_drop l j hm
  refine realcall_intro Tryz.func64 (by kernel_rfl) rfl (Nat.le_of_ble_eq_true (by kernel_rfl)) ?_
  simp only [Tryz.results64, Tryz.ntmps64]
  repeat' (first | (with_reducible first | refine awp_seq ?_ | refine awp_block ?_ | refine awp_skip ?_ | refine awp_ret ?_ | refine awp_exit ?_ | refine awp_region ?_ | refine awp_regionD (id := 2) 8 mixed (by kernel_rfl) ?_ | refine awp_condM ?_ | refine And.intro ?_ ?_ | refine gM_splitN ?_ ?_ | refine gM_split ?_ ?_ | refine condM_splitDN ?_ ?_ | refine condM_splitD ?_ ?_ | refine condM_splitN ?_ ?_ | refine condM_split ?_ ?_ | refine condM_any ?_ ?_ | intro _) | (simp [htm, h, hm, cPt]))
  all_goals first | exact inI64 (by omega) (by omega) | omega | (unfold gapS; first | rw [if_pos (by omega)] | rw [if_neg (by omega)]) | (intro e; subst e; simp at h)

def lastI (l : List Pt) (x : Int) : Nat → Nat
  | 0 => l.length - 1
  | k + 1 => if (nth l k).at_ ≤ x then k else lastI l x k
theorem lastI_lt (l : List Pt) (x : Int) (h : 0 < l.length) : ∀ k, k ≤ l.length → lastI l x k < l.length
  | 0, _ => by simp [lastI]; omega
  | k + 1, hk => by
    simp only [lastI]; split
    · omega
    · exact lastI_lt l x h k (by omega)
def endF (hi : Bool) : Nat := if hi then 39 else 38
def endV (hi : Bool) : PV := .fn (endF hi) []
def ptvI (hi : Bool) (a b : Int) : Int := if hi then b else a
def ptv (hi : Bool) (p : Pt) : Int := ptvI hi p.lo p.hi
def goneS (x a : Int) : Int := if x - a < 0 then x - a + 86400 else x - a
def takesS (l : List Pt) (at_ : Int) (hi : Bool) : Int :=
  let x := at_ % 86400
  let i := lastI l x l.length
  let j := (i + 1) % l.length
  ptv hi (nth l i) + ceilS ((ptv hi (nth l j) - ptv hi (nth l i)) * goneS x (nth l i).at_) (gapS (nth l i).at_ (nth l j).at_)

theorem end_c (hi : Bool) (a b : Int) : RealCall Tryz.prog (endF hi) [.agg [.int .i64 a, .int .i64 b]] (.int .i64 (ptvI hi a b)) true := by
  cases hi
  · show RealCall Tryz.prog 38 _ _ _
    refine realcall_intro Tryz.func38 (by kernel_rfl) rfl (Nat.le_of_ble_eq_true (by kernel_rfl)) ?_
    simp only [Tryz.results38, Tryz.ntmps38]
    repeat' (first | (with_reducible first | refine awp_seq ?_ | refine awp_block ?_ | refine awp_skip ?_ | refine awp_ret ?_ | refine awp_exit ?_ | refine awp_region ?_ | refine awp_condM ?_ | refine And.intro ?_ ?_ | refine gM_splitN ?_ ?_ | refine gM_split ?_ ?_ | refine condM_splitDN ?_ ?_ | refine condM_splitD ?_ ?_ | refine condM_splitN ?_ ?_ | refine condM_split ?_ ?_ | refine condM_any ?_ ?_ | intro _) | (simp [ptvI]))
  · show RealCall Tryz.prog 39 _ _ _
    refine realcall_intro Tryz.func39 (by kernel_rfl) rfl (Nat.le_of_ble_eq_true (by kernel_rfl)) ?_
    simp only [Tryz.results39, Tryz.ntmps39]
    repeat' (first | (with_reducible first | refine awp_seq ?_ | refine awp_block ?_ | refine awp_skip ?_ | refine awp_ret ?_ | refine awp_exit ?_ | refine awp_region ?_ | refine awp_condM ?_ | refine And.intro ?_ ?_ | refine gM_splitN ?_ ?_ | refine gM_split ?_ ?_ | refine condM_splitDN ?_ ?_ | refine condM_splitD ?_ ?_ | refine condM_splitN ?_ ?_ | refine condM_split ?_ ?_ | refine condM_any ?_ ?_ | intro _) | (simp [ptvI]))

/-- points of a right road -/
structure PtsOk (l : List Pt) : Prop where
  pos : 0 < l.length
  len : l.length < 1000
  at_ : ∀ k, k < l.length → 0 ≤ (nth l k).at_ ∧ (nth l k).at_ < 86400
  val : ∀ k, k < l.length → 0 ≤ (nth l k).lo ∧ (nth l k).lo ≤ 10000000 ∧ 0 ≤ (nth l k).hi ∧ (nth l k).hi ≤ 10000000

set_option maxHeartbeats 2000000 in
theorem takes_c (nm : ByteArray) (fr to me : Int) (l : List Pt) (at_ : Int) (hi : Bool) (hl : PtsOk l) (h0 : 0 ≤ at_) (h1 : at_ ≤ 4000000000000000) :
    RealCall Tryz.prog 37 [.agg [.str nm, .int .i64 fr, .int .i64 to, .int .i64 me, .sl l.length (cPts l)], .int .i64 at_, endV hi] (.int .i64 (takesS l at_ hi)) true := by
  have hm : at_.tmod 86400 = at_ % 86400 := Int.tmod_eq_emod_of_nonneg h0
  have hx : 0 ≤ at_ % 86400 ∧ at_ % 86400 < 86400 := by omega
  have hlen := hl.len
  have hpos := hl.pos
  have hres : takesS l at_ hi = ptv hi (nth l (lastI l (at_ % 86400) l.length)) + ceilS ((ptv hi (nth l ((lastI l (at_ % 86400) l.length + 1) % l.length)) - ptv hi (nth l (lastI l (at_ % 86400) l.length))) * goneS (at_ % 86400) (nth l (lastI l (at_ % 86400) l.length)).at_) (gapS (nth l (lastI l (at_ % 86400) l.length)).at_ (nth l ((lastI l (at_ % 86400) l.length + 1) % l.length)).at_) := rfl
  rw [hres]
  generalize at_ % 86400 = x at *
  refine realcall_intro Tryz.func37 (by kernel_rfl) rfl (Nat.le_of_ble_eq_true (by kernel_rfl)) ?_
  simp only [Tryz.results37, Tryz.ntmps37]
  repeat' (first | (with_reducible first | refine awp_seq ?_ | refine awp_blockS ?_ | refine awp_skip ?_ | refine awp_ret ?_ | refine awp_exit ?_ | refine awp_region ?_ | refine awp_condM ?_ | refine And.intro ?_ ?_ | refine gM_splitN ?_ ?_ | refine gM_split ?_ ?_ | refine condM_splitDN ?_ ?_ | refine condM_splitD ?_ ?_ | refine condM_splitN ?_ ?_ | refine condM_split ?_ ?_ | refine condM_any ?_ ?_ | intro _) | (simp [hm]))
  all_goals try first | exact inI64 (by omega) (by omega) | omega
  refine awp_for2 (fun k : Nat => k ≤ l.length) [2, 3, 7, 22, 23] (fun k => [(8, .w false false (.int .i64 (lastI l x k))), (24, .w false false (.int .i64 k))]) (fun _ => [(0, [.w false false (.str nm), .w false false (.int .i64 fr), .w false false (.int .i64 to), .w false false (.int .i64 me), .w false false (.sl l.length (cPts l))])]) (fun k => l.length - k)
    (fun _ : Unit => True) [2, 3, 7] (fun _ => [(8, .w false false (.int .i64 (lastI l x l.length)))]) (fun _ => [(0, [.w false false (.str nm), .w false false (.int .i64 fr), .w false false (.int .i64 to), .w false false (.int .i64 me), .w false false (.sl l.length (cPts l))])]) 0 (Nat.zero_le _) (by simp [lastI]; omega) (by simp) (fun k hk => ?_) (fun _ _ => ?_)
  · repeat' (first | (with_reducible first | refine awp_seq ?_ | refine awp_blockS ?_ | refine awp_skip ?_ | refine awp_ret ?_ | refine awp_exit ?_ | refine awp_region ?_ | refine awp_condM ?_ | refine And.intro ?_ ?_ | refine gM_splitN ?_ ?_ | refine gM_split ?_ ?_ | refine condM_splitDN ?_ ?_ | refine condM_splitD ?_ ?_ | refine condM_splitN ?_ ?_ | refine condM_split ?_ ?_ | refine condM_any ?_ ?_ | intro _) | (simp [*, endV]))
    all_goals first
      | exact inI64 (by omega) (by omega)
      | omega
      | exact loopK_normal _ _ _ _ _ (k + 1) _ (by omega) (by omega) (le_of (by rw [lastI, if_pos (by omega)]; simp) (by simp))
      | exact loopK_normal _ _ _ _ _ (k + 1) _ (by omega) (by omega) (le_of (by rw [lastI, if_neg (by omega)]; simp) (by simp))
      | (exact finW_intro () trivial (le_of (by simp [show k = l.length by omega]) (by simp)))
  · have hi1 := lastI_lt l x hpos l.length (Nat.le_refl _)
    generalize lastI l x l.length = i at *
    have b1 := hl.at_ _ hi1
    have hj : (i + 1) % l.length < l.length := Nat.mod_lt _ hpos
    have b2 := hl.at_ _ hj
    have v1 := hl.val _ hi1
    have v2 := hl.val _ hj
    have w1 : 0 ≤ ptv hi (nth l i) ∧ ptv hi (nth l i) ≤ 10000000 := by unfold ptv ptvI; split <;> omega
    have w2 : 0 ≤ ptv hi (nth l ((i + 1) % l.length)) ∧ ptv hi (nth l ((i + 1) % l.length)) ≤ 10000000 := by unfold ptv ptvI; split <;> omega
    have hgb : 0 ≤ goneS x (nth l i).at_ ∧ goneS x (nth l i).at_ ≤ 86400 := by unfold goneS; split <;> omega
    have hmb := mul_bd (a := ptv hi (nth l ((i + 1) % l.length)) - ptv hi (nth l i)) 10000000 86400 (by omega) (by omega) hgb.1 hgb.2
    have hcb := ceilS_bd _ (gapS (nth l i).at_ (nth l ((i + 1) % l.length)).at_) (10000000 * 86400) (gapS_bd b1 b2) hmb.1 hmb.2
    have cb := behind_c l i hi1 hlen hl.at_
    generalize (i + 1) % l.length = j at *
    repeat' (first | (with_reducible first | refine awp_seq ?_ | refine awp_blockS ?_ | refine awp_skip ?_ | refine awp_ret ?_ | refine awp_exit ?_ | refine awp_region ?_ | refine awp_condM ?_ | refine And.intro ?_ ?_ | refine gM_splitN ?_ ?_ | refine gM_split ?_ ?_ | refine condM_splitDN ?_ ?_ | refine condM_splitD ?_ ?_ | refine condM_splitN ?_ ?_ | refine condM_split ?_ ?_ | refine condM_any ?_ ?_ | refine cw cb ?_ | refine cw (end_c _ _ _) ?_ | refine cw (ceil_c _ _ ?_ ?_ ?_) ?_ | intro _) | (simp [hi1, endV]))
    all_goals rename_i hg
    all_goals first
      | exact inI64 (by omega) (by omega)
      | omega
      | exact gapS_bd b1 b2
      | skip
    all_goals rw [show (ptvI hi (nth l i).lo (nth l i).hi) = ptv hi (nth l i) from rfl, show (ptvI hi (nth l j).lo (nth l j).hi) = ptv hi (nth l j) from rfl] at *
    all_goals first
      | rw [show x - (nth l i).at_ + 86400 = goneS x (nth l i).at_ by unfold goneS; rw [if_pos (by omega)]]
      | rw [show x - (nth l i).at_ = goneS x (nth l i).at_ by unfold goneS; rw [if_neg (by omega)]]
      | skip
    all_goals first
      | exact inI64 (by omega) (by omega)
      | omega
end Go.Proofs.YtfpamehamllndaaGreatDoor

