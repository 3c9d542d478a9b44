/- Contracts of functions for this claim: lemmas alone. -/
import Derived.Test.YtlcimflkjfbaoaaGreatP2
import Derived.Test.YtlcimflkjfbaoaaGreatLu
import Derived.Shelf.Spec.SlicesInsertGrow
import Derived.Laws.CopyOwn
import Derived.WalkKit
set_option linter.unusedSimpArgs false
set_option linter.unusedVariables false
namespace Go.Proofs.YtlcimflkjfbaoaaGreat
open Go Go.Fi Go.RowKit Go.Lib Go.Shelf
set_option maxRecDepth 20000

/-! ### slices.Insert at entries: three cells an element -/
theorem run_copy_rowS {P : Program} (w : World) (dT sT ty elem : TypeId) (g o dLen dCap : Nat) (a : Addr) (sLen sCap sz : Nat) (cur : Array Value) (t : TypeId) (cs : List Value)
    (hu : P.underlying dT = some (.slice elem)) (hs : (P.info? elem).map (·.size) = some sz)
    (hg : w.heap[g]? = some (.cells cur t (0, 0))) (hn : cs.length = Nat.min sLen dLen * sz)
    (hsrc : ∀ (j : Nat) (v : Value), cs[j]? = some v → w.cell? (a.add j) = some v) (hfit : o + cs.length ≤ cur.size) (h1 : ∀ v ∈ cs, v.oneCell' = true) :
    (Builtin.copy_ #[dT, sT] ty #[.slice (some ⟨g, o, none⟩) dLen dCap, .slice (some a) sLen sCap]).run P w =
      .ok (goInt (Nat.min sLen dLen)) (w.setRow g (cur.toList.take o ++ cs ++ cur.toList.drop (o + cs.length)).toArray) := by
  have hl := run_loadCells_list (P := P) w a cs hsrc
  have hst := run_storeCells_at P g o t cs 0 cur w hg (by simpa using hfit) h1
  cases hq : P.info? elem with
  | none => simp [hq] at hs
  | some i =>
    have hi : i.size = sz := by simpa [hq] using hs
    simp [Builtin.copy_, run_underlying hu, Builtin.lenOf, Builtin.firstCells, sizeOf, typeInfo, hq, hi, ← hn, hl, hst]
def spl (L : List Value) (o : Nat) (cs : List Value) : List Value := L.take o ++ cs ++ L.drop (o + cs.length)
theorem spl_get (L : List Value) (o : Nat) (cs : List Value) (h : o + cs.length ≤ L.length) (j : Nat) : (spl L o cs)[j]? = if j < o then L[j]? else if j < o + cs.length then cs[j - o]? else L[j]? := by
  unfold spl
  rw [List.append_assoc, List.getElem?_append]
  simp only [List.length_take, Nat.min_eq_left (show o ≤ L.length by omega)]
  split
  · rename_i hj; rw [List.getElem?_take, if_pos hj]
  · rename_i hj
    rw [List.getElem?_append]
    split
    · rename_i h2; rw [if_pos (by omega)]
    · rename_i h2
      rw [if_neg (by omega), List.getElem?_drop]
      congr 1
      omega
theorem spl_len (L : List Value) (o : Nat) (cs : List Value) (h : o + cs.length ≤ L.length) : (spl L o cs).length = L.length := by simp [spl]; omega
theorem cell_row {w : World} {b : Nat} {cs : Array Value} {ty : TypeId} (h : w.heap[b]? = some (.cells cs ty (0, 0))) (j : Nat) : w.cell? ⟨b, j, none⟩ = cs[j]? := by
  simp [World.cell?, h]
set_option maxHeartbeats 4000000 in
theorem ins_shift (b n cap i vb vc : Nat) (cs vs : Array Value) (ty tv : TypeId) (cl vl : List Value) (w : World) (hi : i < n) (hn : n < 100000) (hfit : n + 1 ≤ cap) (hcs : cap * 3 ≤ cs.size) (hvl : vl.length = 3) (hvs : 3 ≤ vs.size) (hcl : cl.length = n * 3) (hvb : vb ≠ b)
    (hb : w.heap[b]? = some (.cells cs ty (0, 0))) (hv : w.heap[vb]? = some (.cells vs tv (0, 0))) (hclv : ∀ (j : Nat) (v : Value), cl[j]? = some v → cs[j]? = some v) (hvlv : ∀ (j : Nat) (v : Value), vl[j]? = some v → vs[j]? = some v) (h1c : ∀ v ∈ cl, v.oneCell' = true) (h1v : ∀ v ∈ vl, v.oneCell' = true) :
    Calls Tryz.prog 37 #[.slice (some ⟨b, 0, none⟩) n cap, .int .i64 i, .slice (some ⟨vb, 0, none⟩) 1 vc] w fun e w' => e = .returned (.slice (some ⟨b, 0, none⟩) (n + 1) cap) ∧ Below b w w' ∧ (∀ k, k ≠ b → w'.heap[k]? = w.heap[k]?) ∧
      ∃ row : Array Value, w'.heap[b]? = some (.cells row ty (0, 0)) ∧ row.size = cs.size ∧ ∀ j, j < (n + 1) * 3 → row[j]? = (insAt cl (i * 3) vl)[j]? := by
  have u72 : Tryz.prog.underlying 66 = some (.slice 54) := Tryz.underlying66
  have hsz : (Tryz.prog.info? 54).map (·.size) = some 3 := by kernel_rfl
  have hz2 : ¬ ((i : Int) = (n : Int)) := by omega
  have hw1 : IntKind.i64.wrap ((i : Int) + 1) = (i : Int) + 1 := by rw [IntKind.wrap_i64]; omega
  have hw2 : IntKind.i64.wrap ((n : Int) + 1) = (n : Int) + 1 := by rw [IntKind.wrap_i64]; omega
  have hb1 : (0 : Int) ≤ (i : Int) + 1 := by omega
  have hin : i ≤ n := by omega
  have htn : ((i : Int) + 1).toNat = i + 1 := by omega
  have hov : ∀ lb cb, (callFunc 61 #[.slice (some ⟨vb, 0, none⟩) 1 vc, .slice (some ⟨b, (i + 1) * 3, none⟩) lb cb]).run Tryz.prog w = .ok (.value (.bool false)) w := fun lb cb => by
    rw [run_callFunc_extern Tryz.func61 (by kernel_rfl) (by kernel_rfl) (by kernel_rfl) (e := Extern.SlicesOverlaps.overlaps #[66, 66] #[4]) (by kernel_rfl),
      Lib.run_overlaps_apart w 66 4 54 u72 3 (fun _ => by kernel_rfl) ⟨vb, 0, none⟩ ⟨b, (i + 1) * 3, none⟩ 1 vc lb cb hvb tv ty vs.size cs.size (by simp [World.shape?, hv]) (by simp [World.shape?, hb]) (by omega) (by simp [World.frozen?, hv]) (by simp [World.frozen?, hv])]
    rfl
  have hc1l : (cl.drop (i * 3)).length = (n - i) * 3 := by rw [List.length_drop, hcl, ← Nat.sub_mul]
  have hfit3 : (n + 1) * 3 ≤ cap * 3 := Nat.mul_le_mul_right _ hfit
  have hcsl : cs.toList.length = cs.size := Array.length_toList
  have hmin1 : Nat.min (n + 1 - i) (n + 1 - (i + 1)) = n - i := by simp only [Nat.min_def]; split <;> omega
  have hmin2 : Nat.min 1 (n + 1 - i) = 1 := by simp only [Nat.min_def]; split <;> omega
  obtain ⟨L1, hL1d⟩ : ∃ L1, L1 = spl cs.toList ((i + 1) * 3) (cl.drop (i * 3)) := ⟨_, rfl⟩
  have hL1 : L1.length = cs.size := by rw [hL1d, spl_len _ _ _ (by rw [hcsl, hc1l]; omega), hcsl]
  have hcp1 : ∀ ty' dc sc, (Builtin.copy_ #[66, 66] ty' #[.slice (some ⟨b, (i + 1) * 3, none⟩) (n + 1 - (i + 1)) dc, .slice (some ⟨b, i * 3, none⟩) (n + 1 - i) sc]).run Tryz.prog w.drew = .ok (goInt (n - i : Nat)) (w.drew.setRow b L1.toArray) := fun ty' dc sc => by
    have h := run_copy_rowS (P := Tryz.prog) w.drew 66 66 ty' 54 b ((i + 1) * 3) (n + 1 - (i + 1)) dc ⟨b, i * 3, none⟩ (n + 1 - i) sc 3 cs ty (cl.drop (i * 3)) u72 hsz hb (by rw [hc1l, hmin1])
      (fun j v hj => by rw [Addr.add_lit, cell_row (show w.drew.heap[b]? = _ from hb)]; exact hclv _ v (by rwa [List.getElem?_drop] at hj)) (by rw [hc1l]; omega) (fun v hv => h1c v (List.mem_of_mem_drop hv))
    rw [hmin1] at h
    rw [hL1d]
    exact h
  have hW1b : (w.drew.setRow b L1.toArray).heap[b]? = some (.cells L1.toArray ty (0, 0)) := setRow_heap _ b _ _ ty _ (show w.drew.heap[b]? = _ from hb)
  have hW1v : (w.drew.setRow b L1.toArray).heap[vb]? = some (.cells vs tv (0, 0)) := by rw [setRow_other _ _ _ _ hvb]; exact hv
  have hcp2 : ∀ W, W = w.drew.setRow b L1.toArray → ∀ ty' dc, (Builtin.copy_ #[66, 66] ty' #[.slice (some ⟨b, i * 3, none⟩) (n + 1 - i) dc, .slice (some ⟨vb, 0, none⟩) 1 vc]).run Tryz.prog W = .ok (goInt (1 : Nat)) ((w.drew.setRow b L1.toArray).setRow b (spl L1 (i * 3) vl).toArray) := fun W hW ty' dc => by
    subst hW
    have h := run_copy_rowS (P := Tryz.prog) (w.drew.setRow b L1.toArray) 66 66 ty' 54 b (i * 3) (n + 1 - i) dc ⟨vb, 0, none⟩ 1 vc 3 L1.toArray ty vl u72 hsz hW1b (by rw [hvl, hmin2])
      (fun j v hj => by rw [Addr.add_lit, cell_row hW1v, Nat.zero_add]; exact hvlv _ v hj) (by rw [hvl, List.size_toArray, hL1]; omega) h1v
    rw [hmin2] at h
    exact h
  have hget : ∀ j, j < (n + 1) * 3 → (spl L1 (i * 3) vl)[j]? = (insAt cl (i * 3) vl)[j]? := by
    intro j hj
    have hcc : ∀ q, q < n * 3 → cs[q]? = cl[q]? := fun q hq => by
      rw [List.getElem?_eq_getElem (by omega)]
      exact hclv q _ (List.getElem?_eq_getElem (by omega))
    rw [spl_get _ _ _ (by rw [hvl, hL1]; omega), insAt_get _ _ _ (by omega), hvl]
    split
    · rename_i q
      rw [hL1d, spl_get _ _ _ (by rw [hcsl, hc1l]; omega), if_pos (by omega), Array.getElem?_toList]
      exact hcc j (by omega)
    · rename_i q
      split
      · rfl
      · rename_i q2
        rw [hL1d, spl_get _ _ _ (by rw [hcsl, hc1l]; omega), if_neg (by omega), if_pos (by rw [hc1l]; omega), List.getElem?_drop]
        congr 1
        omega
  have kL1 := keep hL1
  have hb2 : ¬ (cap = i + 1) := by omega
  have hb3 : (i : Int) ≤ (n : Int) + 1 := by omega
  have hb4 : ¬ (cap = i) := by omega
  have mixed : Tryz.prog.follows .mixedOrders = true := mixed
  have hend : i * 3 + vl.length ≤ L1.length := by rw [hvl, hL1]; omega
  have kend := keep hend
  clear hc1l hmin1 hmin2 hcsl hL1d hL1 hend hfit3
  go_enter Tryz.func37, Tryz.ntmps37
  go_wp2_with (simp only [hov])
  go_region_law_o (refine step_copy_runI rfl _ _ 66 66 rfl (.slice (some ⟨b, (i + 1) * 3, none⟩) (n + 1 - (i + 1)) (cap - (i + 1))) (.slice (some ⟨b, i * 3, none⟩) (n + 1 - i) (cap - i)) (by simp [Act.eval, Act.put]) (by simp [Act.eval, Act.put]) (hcp1 _ _ _) ?_)
  go_wp2_with (at_builtin; refine wpList_copy_runI _ rfl _ _ 66 66 rfl _ _ rfl rfl (hcp2 _ rfl _ _) ?_)
  go_ret
  refine ⟨rfl, below_setRow (below_setRow (Below.refl _ _).drew (Nat.le_refl _) _) (Nat.le_refl _) _, fun k hk => ?_, _, setRow_heap _ b _ _ ty _ hW1b, ?_, fun j hj => ?_⟩
  · rw [setRow_other _ _ _ _ hk, setRow_other _ _ _ _ hk]; rfl
  · rw [List.size_toArray, spl_len _ _ _ kend]
    exact kL1
  · rw [List.getElem?_toArray]
    exact hget j hj
end Go.Proofs.YtlcimflkjfbaoaaGreat
namespace Go.Proofs.YtlcimflkjfbaoaaGreat
open Go Go.Fi Go.RowKit Go.Lib Go.Shelf
set_option maxRecDepth 20000

noncomputable def eI : TypeInfo := (Tryz.prog.info? 54).get (by kernel_rfl)
noncomputable def eZ : Value := eI.zero.get (by kernel_rfl)
theorem eI_info : Tryz.prog.info? 54 = some eI := by kernel_rfl
theorem eI_size : eI.size = 3 := by kernel_rfl
theorem eI_bytes : eI.bytes = 48 := by kernel_rfl
theorem eI_zero : eI.zero = some eZ := by kernel_rfl
theorem eZ_size : eZ.cells.size = 3 := by kernel_rfl
set_option maxHeartbeats 4000000 in
theorem ins_grow (b n cap i vb vc : Nat) (cs vs : Array Value) (ty tv : TypeId) (cl vl : List Value) (w : World) (hi : i < n) (hnc : n ≤ cap) (hroom : cap < n + 1) (hn1 : n + 1 ≤ 1000000000) (hcs : cap * 3 ≤ cs.size) (hvl : vl.length = 3) (hvs : 3 ≤ vs.size) (hcl : cl.length = n * 3) (hvb : vb ≠ b)
    (hb : w.heap[b]? = some (.cells cs ty (0, 0))) (hv : w.heap[vb]? = some (.cells vs tv (0, 0))) (hclv : ∀ (j : Nat) (v : Value), cl[j]? = some v → cs[j]? = some v) (hvlv : ∀ (j : Nat) (v : Value), vl[j]? = some v → vs[j]? = some v) (h1c : ∀ v ∈ cl, v.oneCell' = true) (h1v : ∀ v ∈ vl, v.oneCell' = true) :
    Calls Tryz.prog 37 #[.slice (some ⟨b, 0, none⟩) n cap, .int .i64 i, .slice (some ⟨vb, 0, none⟩) 1 vc] w fun e w' => ∃ G : Nat, e = .returned (.slice (some ⟨w.heap.size, 0, none⟩) (n + 1) G) ∧ n + 1 ≤ G ∧ Below w.heap.size w w' ∧
      ∃ (row : Array Value) (ty' : TypeId), w'.heap[w.heap.size]? = some (.cells row ty' (0, 0)) ∧ row.size = G * 3 ∧ ∀ j, j < (n + 1) * 3 → row[j]? = (insAt cl (i * 3) vl)[j]? := by
  have u72 : Tryz.prog.underlying 66 = some (.slice 54) := Tryz.underlying66
  have u3 : Tryz.prog.underlying 3 = some (.int .i64) := Tryz.underlying3
  have hsz : (Tryz.prog.info? 54).map (·.size) = some 3 := by kernel_rfl
  have hbw : b < w.heap.size := (Array.getElem?_eq_some_iff.1 hb).1
  have hvw : vb < w.heap.size := (Array.getElem?_eq_some_iff.1 hv).1
  have hkk : (n : Int) + 1 - (i : Int) = ((n + 1 - i : Nat) : Int) := by omega
  have hik : i + (n + 1 - i) = n + 1 := by omega
  have hc1l : (cl.drop (i * 3)).length = (n - i) * 3 := by rw [List.length_drop, hcl, ← Nat.sub_mul]
  have hcc : ∀ q, q < n * 3 → cs[q]? = cl[q]? := fun q hq => by
    rw [List.getElem?_eq_getElem (by omega)]
    exact hclv q _ (List.getElem?_eq_getElem (by omega))
  have hold : (Builtin.firstCells eI.size i (.slice (some ⟨b, 0, none⟩) i cap)).run Tryz.prog w.drew = .ok (cl.take (i * 3)).toArray w.drew := by
    rw [eI_size]
    exact run_firstCells_some w.drew 3 i ⟨b, 0, none⟩ i cap (cl.take (i * 3)) (by rw [List.length_take]; omega) (fun j v hj => by
      rw [Addr.add_lit, cell_row (show w.drew.heap[b]? = _ from hb), Nat.zero_add]
      rw [List.getElem?_take] at hj
      split at hj
      · exact hclv j v hj
      · cases hj)
  obtain ⟨G, hG⟩ : ∃ G, G = grownCap w (n + 1) cap 54 := ⟨_, rfl⟩
  have hGn : n + 1 ≤ G := by rw [hG]; exact grownCap_ge w _ _ _
  obtain ⟨ROW, hROW⟩ : ∃ ROW : Array Value, ROW = (cl.take (i * 3)).toArray ++ Builtin.zeroCells eZ.cells (n + 1 - i) ++ Builtin.zeroCells eZ.cells (G - (n + 1)) := ⟨_, rfl⟩
  have hrz : ∀ ty', (Builtin.append_ #[66, 3] ty' #[.slice (some ⟨b, 0, none⟩) i cap, .int .i64 ((n : Int) + 1 - (i : Int))]).run Tryz.prog w = .ok (.slice (some ⟨w.heap.size, 0, none⟩) (n + 1) G) (w.drew.alloc (.cells ROW 54)) := fun ty' => by
    have h := Lib.run_append_grow_zeros (P := Tryz.prog) w 66 3 ty' 54 eI eZ .i64 .i64 u72 u3 eI_info eI_zero (some ⟨b, 0, none⟩) i cap (cl.take (i * 3)) hold (n + 1 - i) (by omega) (by rw [eI_size]; decide) (by omega) (by omega) (by rw [eI_bytes]; omega) (by rw [eI_bytes, hik]; exact growslice_fits hroom (by omega))
    rw [hik, ← hG, ← hROW] at h
    rw [hkk]
    exact h
  have hRs : ROW.size = G * 3 := by
    rw [hROW]
    simp only [Array.size_append, List.size_toArray, List.length_take, size_zeroCells, eZ_size]
    omega
  obtain ⟨LA, hLAd⟩ : ∃ LA, LA = spl ROW.toList (i * 3) vl := ⟨_, rfl⟩
  have hRl : ROW.toList.length = G * 3 := by rw [Array.length_toList, hRs]
  have hLA : LA.length = G * 3 := by rw [hLAd, spl_len _ _ _ (by rw [hRl, hvl]; omega), hRl]
  obtain ⟨LB, hLBd⟩ : ∃ LB, LB = spl LA ((i + 1) * 3) (cl.drop (i * 3)) := ⟨_, rfl⟩
  have hLB : LB.length = G * 3 := by rw [hLBd, spl_len _ _ _ (by rw [hLA, hc1l]; omega), hLA]
  obtain ⟨N, hN⟩ : ∃ N, N = w.heap.size := ⟨_, rfl⟩
  obtain ⟨H1, hH1⟩ : ∃ H1, H1 = (w.drew.alloc (.cells ROW 54)).heap := ⟨_, rfl⟩
  have hH1N : H1[N]? = some (.cells ROW 54 (0, 0)) := by rw [hH1, hN]; exact heap_push_new w.drew _
  have hH1o : ∀ k, k < N → H1[k]? = w.heap[k]? := fun k hk => by rw [hH1]; exact heap_push_old w.drew _ (by show k < w.heap.size; omega)
  have hmin1 : Nat.min (n - i) (n - i) = n - i := Nat.min_self _
  have hmin2 : Nat.min 1 (n + 1 - i) = 1 := by simp only [Nat.min_def]; split <;> omega
  have hcpA : ∀ W : World, W.heap = H1 → ∀ ty' dc, (Builtin.copy_ #[66, 66] ty' #[.slice (some ⟨N, i * 3, none⟩) (n + 1 - i) dc, .slice (some ⟨vb, 0, none⟩) 1 vc]).run Tryz.prog W = .ok (goInt (1 : Nat)) (W.setRow N LA.toArray) := fun W hW ty' dc => by
    have h := run_copy_rowS (P := Tryz.prog) W 66 66 ty' 54 N (i * 3) (n + 1 - i) dc ⟨vb, 0, none⟩ 1 vc 3 ROW 54 vl u72 hsz (by rw [hW]; exact hH1N) (by rw [hvl, hmin2])
      (fun j v hj => by rw [Addr.add_lit, cell_row (show W.heap[vb]? = _ by rw [hW, hH1o vb (by omega)]; exact hv), Nat.zero_add]; exact hvlv _ v hj) (by rw [hvl, hRs]; omega) h1v
    rw [hmin2] at h
    rw [hLAd]
    exact h
  have hcpB : ∀ W : World, ∀ W0 : World, W0.heap = H1 → W.heap = (W0.setRow N LA.toArray).heap → ∀ ty' dc sc, (Builtin.copy_ #[66, 66] ty' #[.slice (some ⟨N, (i + 1) * 3, none⟩) (n - i) dc, .slice (some ⟨b, i * 3, none⟩) (n - i) sc]).run Tryz.prog W = .ok (goInt (n - i : Nat)) (W.setRow N LB.toArray) := fun W W0 hW0 hW ty' dc sc => by
    have h := run_copy_rowS (P := Tryz.prog) W 66 66 ty' 54 N ((i + 1) * 3) (n - i) dc ⟨b, i * 3, none⟩ (n - i) sc 3 LA.toArray 54 (cl.drop (i * 3)) u72 hsz (by rw [hW]; exact setRow_heap W0 N _ _ 54 _ (by rw [hW0]; exact hH1N)) (by rw [hc1l, hmin1])
      (fun j v hj => by
        rw [Addr.add_lit, cell_row (show W.heap[b]? = some (.cells cs ty (0, 0)) by rw [hW, setRow_other _ _ _ _ (show b ≠ N by omega), hW0, hH1o b (by omega)]; exact hb)]
        exact hclv _ v (by rwa [List.getElem?_drop] at hj)) (by rw [hc1l, List.size_toArray, hLA]; omega) (fun v hv => h1c v (List.mem_of_mem_drop hv))
    rw [hmin1] at h
    rw [hLBd]
    exact h
  have hget : ∀ j, j < (n + 1) * 3 → LB[j]? = (insAt cl (i * 3) vl)[j]? := by
    intro j hj
    rw [hLBd, spl_get _ _ _ (by rw [hLA, hc1l]; omega), insAt_get _ _ _ (by omega), hvl]
    by_cases q : j < i * 3
    · rw [if_pos (by omega), if_pos q, hLAd, spl_get _ _ _ (by rw [hRl, hvl]; omega), if_pos q, Array.getElem?_toList, hROW, Array.append_assoc, Array.getElem?_append, if_pos (by simp; omega), List.getElem?_toArray, List.getElem?_take, if_pos q]
    · rw [if_neg q]
      by_cases q2 : j < i * 3 + 3
      · rw [if_pos (by omega), if_pos q2, hLAd, spl_get _ _ _ (by rw [hRl, hvl]; omega), if_neg q, hvl, if_pos q2]
      · rw [if_neg (by omega), if_neg q2, if_pos (by rw [hc1l]; omega), List.getElem?_drop]
        congr 1
        omega
  have hz2 : ¬ ((i : Int) = (n : Int)) := by omega
  have hz3 : (cap : Int) < (n : Int) + 1 := by omega
  have hw1 : IntKind.i64.wrap ((i : Int) + 1) = (i : Int) + 1 := by rw [IntKind.wrap_i64]; omega
  have hw2 : IntKind.i64.wrap ((n : Int) + 1) = (n : Int) + 1 := by rw [IntKind.wrap_i64]; omega
  have hw3 : IntKind.i64.wrap ((n : Int) + 1 - (i : Int)) = (n : Int) + 1 - (i : Int) := by rw [IntKind.wrap_i64]; omega
  have hb1 : (0 : Int) ≤ (i : Int) + 1 := by omega
  have hin : i ≤ n := by omega
  have htn : ((i : Int) + 1).toNat = i + 1 := by omega
  have hb3 : (i : Int) ≤ (n : Int) := by omega
  have hGi : ¬ (G = i) := by omega
  have hGim : ¬ (G = i + 1) := by omega
  have hci : ¬ (cap = i) := by omega
  have hci1 : ¬ (cap = i + 1) ∨ True := .inr trivial
  have mixed : Tryz.prog.follows .mixedOrders = true := mixed
  have hcpA2 : ∀ W : World, W.heap = (w.drew.alloc (.cells ROW 54)).heap → ∀ ty' dc, (Builtin.copy_ #[66, 66] ty' #[.slice (some ⟨N, i * 3, none⟩) (n + 1 - i) dc, .slice (some ⟨vb, 0, none⟩) 1 vc]).run Tryz.prog W = .ok (goInt (1 : Nat)) (W.setRow N LA.toArray) := fun W hW => hcpA W (hW.trans hH1.symm)
  have hcpB2 : ∀ W : World, W.heap = ((w.drew.alloc (.cells ROW 54)).setRow N LA.toArray).heap → ∀ ty' dc sc, (Builtin.copy_ #[66, 66] ty' #[.slice (some ⟨N, (i + 1) * 3, none⟩) (n - i) dc, .slice (some ⟨b, i * 3, none⟩) (n - i) sc]).run Tryz.prog W = .ok (goInt (n - i : Nat)) (W.setRow N LB.toArray) := fun W hW => hcpB W (w.drew.alloc (.cells ROW 54)) hH1.symm hW
  have hE1 : ((w.alloc (.cells ROW 54)).drew).heap = (w.drew.alloc (.cells ROW 54)).heap := rfl
  have hA3 := hcpA2 _ hE1
  have hE2 : (((w.alloc (.cells ROW 54)).drew.setRow N LA.toArray).drew).heap = ((w.drew.alloc (.cells ROW 54)).setRow N LA.toArray).heap := rfl
  have hB3 := hcpB2 _ hE2
  have kH1N := keep hH1N
  have kH1o := keep hH1o
  rw [← hN] at hrz ⊢
  have kN := keep hN
  have kH1 := keep hH1
  have kLB := keep hLB
  clear hE1 hE2 hcpB2 hcpA2 hcpA hcpB hH1N hH1o hci1 hkk hik hold hROW hG hRl hRs hLAd hLBd hLA hLB hN hH1 hc1l hmin1 hmin2 hcc
  go_enter Tryz.func37, Tryz.ntmps37
  go_wp2_with (first
    | (at_builtin; refine Lib.wpList_append_run _ rfl _ _ _ _ rfl _ _ rfl rfl _ _ (hrz _) ?_)
    | (at_builtin; refine wpList_copy_runI _ rfl _ _ 66 66 rfl _ _ rfl rfl (hA3 _ _) ?_))
  go_region_law_o (refine step_copy_runI rfl _ _ 66 66 rfl (.slice (some ⟨N, (i + 1) * 3, none⟩) (n - i) (G - (i + 1))) (.slice (some ⟨b, i * 3, none⟩) (n - i) (cap - i)) (by simp [Act.eval, Act.put]) (by simp [Act.eval, Act.put]) (hB3 _ _ _) ?_)
  go_wp2
  go_ret
  have eN := (show N = w.heap.size from kN)
  have e1 : ((w.alloc (.cells ROW 54)).drew).heap[N]? = some (.cells ROW 54 (0, 0)) := by rw [eN]; exact heap_push_new w _
  have e2 := setRow_heap _ N _ LA.toArray 54 _ e1
  have hb0 : Below N w (w.alloc (.cells ROW 54)).drew := by
    rw [eN]
    exact ⟨rfl, rfl, rfl, by show w.heap.size ≤ (w.alloc (.cells ROW 54)).heap.size; rw [alloc_size]; exact Nat.le_succ _, fun k hk => heap_push_old w _ hk⟩
  refine ⟨G, rfl, hGn, below_setRow (below_setRow hb0 (Nat.le_refl _) _).drew (Nat.le_refl _) _, _, 54, setRow_heap _ N _ _ 54 _ (show (((w.alloc (.cells ROW 54)).drew.setRow N LA.toArray).drew).heap[N]? = _ from e2), ?_, fun j hj => ?_⟩
  · rw [List.size_toArray]
    exact kLB
  · rw [List.getElem?_toArray]
    exact hget j hj
end Go.Proofs.YtlcimflkjfbaoaaGreat
namespace Go.Proofs.YtlcimflkjfbaoaaGreat
open Go Go.Fi Go.RowKit Go.Lib Go.Shelf
set_option maxRecDepth 20000

set_option maxHeartbeats 4000000 in
theorem ins_end (a0 : Option Addr) (n cap vb vc : Nat) (w : World) (v' : Value) (w' : World) (hn : n < 1000000000) (hnc : n ≤ cap) (ha : a0 = none → cap = 0) (hr : (Builtin.append_ #[66, 66] 66 #[.slice a0 n cap, .slice (some ⟨vb, 0, none⟩) 1 vc]).run Tryz.prog w = .ok v' w') :
    Calls Tryz.prog 37 #[.slice a0 n cap, .int .i64 n, .slice (some ⟨vb, 0, none⟩) 1 vc] w fun e w1 => e = .returned v' ∧ w1 = w' := by
  have u72 : Tryz.prog.underlying 66 = some (.slice 54) := Tryz.underlying66
  have mixed : Tryz.prog.follows .mixedOrders = true := mixed
  cases a0 with
  | none =>
    have h0 := ha rfl
    subst h0
    obtain rfl : n = 0 := by omega
    clear ha hnc hn
    go_enter Tryz.func37, Tryz.ntmps37
    go_wp2_with (at_builtin; refine Lib.wpList_append_run _ rfl _ _ _ _ rfl _ _ rfl rfl _ _ hr ?_)
    all_goals (go_ret; exact ⟨rfl, rfl⟩)
  | some a =>
    clear ha
    obtain ⟨ab, ao, asp⟩ := a
    go_enter Tryz.func37, Tryz.ntmps37
    go_wp2_with (at_builtin; refine Lib.wpList_append_run _ rfl _ _ _ _ rfl _ _ rfl rfl _ _ hr ?_)
    all_goals (go_ret; exact ⟨rfl, rfl⟩)
theorem insC : InsC Tryz.prog 37 66 66 3 48 where
  ent := ⟨_, Tryz.func37, by kernel_rfl, by kernel_rfl⟩
  shift b n cap i vb vc cs vs ty tv cl vl w h1 h2 h3 h4 h5 h6 h7 h8 h9 h10 h11 h12 h13 h14 := ins_shift b n cap i vb vc cs vs ty tv cl vl w h1 h2 h3 h4 h5 h6 h7 h8 h9 h10 h11 h12 h13 h14
  grow b n cap i vb vc cs vs ty tv cl vl w h1 h2 h3 h4 _ h5 h6 h7 h8 h9 h10 h11 h12 h13 h14 h15 := ins_grow b n cap i vb vc cs vs ty tv cl vl w h1 h2 h3 h4 h5 h6 h7 h8 h9 h10 h11 h12 h13 h14 h15
  endc := ins_end
theorem insert_e {h : Heap} {nn id id2 n i : Nat} {o1 f1 : Bool} {cells news : List AV} (hg : hget h id = some cells) (hl : cells.length = n * 3) (hg2 : hget h id2 = some news) (hl2 : news.length = 3) (hne : id ≠ id2) (hi : i ≤ n) (hn : n < 100000) (h1 : ones cells = true) (h2 : ones news = true) :
    ECall Tryz.prog 37 [.msl id (n * 3) 3 0 n, .w o1 f1 (.int .i64 (i : Int)), .msl id2 3 3 0 1] h nn id (insAt cells (i * 3) news) (.msl id ((n + 1) * 3) 3 0 (n + 1)) :=
  insert_ecall insC slE_66 byE_54 zcells_54 rfl (by decide) (by decide) hg hl hg2 hl2 hne hi hn h1 h2
end Go.Proofs.YtlcimflkjfbaoaaGreat

