/- A logic of abstract states for this claim (part Lh): lemmas alone. -/
import Derived.Test.YtfpamehamllndaaGreatDoorLf
import Derived.Shelf.Slices.Cells
set_option linter.unusedSimpArgs false
set_option linter.unusedVariables false

namespace Go.Fi
open Go Go.RowKit
variable [LaidW]
variable {fk : Fk}

omit [LaidW] in
theorem setCells_wset (b : Nat) (e : TypeId) : ∀ (vs : List Value) (off : Nat) (w : World) (cs : Array Value), w.heap[b]? = some (.cells cs e (0, 0)) → w.setCells b off vs = wset w b (setArr cs off vs) e
  | [], off, w, cs, h => by simp only [World.setCells, setArr]; exact (wset_self w b cs e h).symm
  | v :: r, off, w, cs, h => by
    have hb : b < w.heap.size := by
      rcases Nat.lt_or_ge b w.heap.size with h1 | h1
      · exact h1
      · rw [Array.getElem?_eq_none h1] at h; cases h
    simp only [World.setCells, setArr]
    rw [setCell_wset h, setCells_wset b e r (off + 1) _ (cs.setIfInBounds off v) (wset_same w b _ e hb), wset_wset]

/-- 'slices.Reverse' at []int, by its contract -/
structure RevC (P : Program) (f : FuncId) : Prop where
  ent : Enterable P f
  nz : ∀ (b off n c : Nat) (zs : List Int) (w : World), n ≤ zs.length → n ≤ 9223372036854775807 → (∀ j, j < zs.length → w.cell? ⟨b, off + j, none⟩ = some (.int .i64 (zs.getD j 0))) → (∀ j, j < n → w.frozen? ⟨b, off + j, none⟩ = false) →
    Calls P f #[.slice (some ⟨b, off, none⟩) n c] w fun e w' => e = .returned (.tuple #[]) ∧ ∃ q, w' = (w.drewN q).setCells b off ((zs.take n).reverse.map (Value.int .i64))
  ez : ∀ (a : Option Addr) (c : Nat) (w : World), Calls P f #[.slice a 0 c] w fun e w' => e = .returned (.tuple #[]) ∧ w' = w

def iC (l : List Int) : List AV := (l.map (PV.int .i64)).map (AV.w false false)
omit [LaidW] in
theorem iC_get {l : List Int} {j : Nat} {p : AV} (h : (iC l)[j]? = some p) : ∃ x, l[j]? = some x ∧ p = .w false false (.int .i64 x) := by
  unfold iC at h
  obtain ⟨y, hy, rfl⟩ := getElem?_map_some h
  obtain ⟨x, hx, rfl⟩ := getElem?_map_some hy
  exact ⟨x, hx, rfl⟩
omit [LaidW] in
theorem iC_at {l : List Int} {j : Nat} (h : j < l.length) : (iC l)[j]? = some (.w false false (.int .i64 (l.getD j 0))) := by
  simp [iC, List.getElem?_map, List.getElem?_eq_getElem h, List.getD_eq_getElem?_getD]

theorem awp_rev {P : Program} {f : FuncId} (hr : RevC P f) {K : Exit → St → Prop} {rid d1 d2 t ty1 ty2 : Nat} {p1 p2 : String} {a1 a2 : Array Edge} {tys : Array TypeId} {env : Env} {h : Heap} {n nt id : Nat} {l : List Int}
    (hg : get env t = .msl id l.length 1 0 l.length) (hh : hget h id = some (iC l)) (hl : l.length ≤ 1000000) (hd1 : d1 < nt) (hd2 : d2 < nt)
    (hk : K .normal ⟨(d2, .tup []) :: (d1, .msl id l.length 1 0 l.length) :: env, hset h id (iC l.reverse), n, nt⟩) :
    AWPk fk P (.region rid #[⟨some d1, .move (.tmp t), ty1, p1, a1, none⟩, ⟨some d2, .call ⟨.value (.func f), #[.tmp d1], tys⟩, ty2, p2, a2, none⟩] false) ⟨env, h, n, nt⟩ K := by
  intro B w0 a w m hs
  refine wpIn_region_list ?_
  simp only [wpListIn, Region.wanted, if_true]
  refine wpIn_of_wp (fun c e => by cases e) (estep_sound w0 (⟨some d1, .move (.tmp t), ty1, p1, a1, none⟩ : Oper) (K := fun v h' n' => v = get env t ∧ h' = h ∧ n' = n) (by simp) hs hd1 _ _ ?_)
  rintro v h' n' a w m ⟨rfl, rfl, rfl⟩ hs
  refine wpIn_of_wp (fun c e => by cases e) ?_
  rw [hg] at hs
  have hB := hs.room
  have hx : RepA B (LB m h') m w (.msl id l.length 1 0 l.length) (a.eval (.tmp d1)) := by
    have := hs.env d1
    rw [show get (St.env ⟨put env (some d1) (.msl id l.length 1 0 l.length), h', n', nt⟩) d1 = .msl id l.length 1 0 l.length from by simp [put, get]] at this
    exact this
  obtain ⟨a0, cap, hv, hkc, hd, hver, h3, h4⟩ := hx.msl_inv
  obtain ⟨fn, hfn, hname, hbody⟩ := hr.ent
  have hrun : (execOp a.eval ⟨some d2, .call ⟨.value (.func f), #[.tmp d1], tys⟩, ty2, p2, a2, none⟩).run P w = .ok (.enter f #[.slice a0 l.length cap]) w := by
    have hn' : ¬ fn.name = "runtime.NumGoroutine" := by simpa using hname
    have hb' : ¬ fn.body = none := by intro h; simp [h] at hbody
    have hv' : a.eval (.tmp d1) = .slice a0 l.length cap := hv
    simp [execOp, resolve, Act.eval, Deferred.ofValue, invoke, callFunc, hfn, hn', hb'] at hv' ⊢
    exact hv'
  unfold Oper.wp
  rw [hrun, Oper.upon_enter]
  have hin := hget_mem hh
  have hlen : (iC l).length = l.length := by simp [iC]
  -- the new state
  have fin : ∀ w' m', EPost B h' m w n' (hset h' id (iC l.reverse)) n' (.tup []) (.tuple #[]) w' m' → ∃ st' m'', K .normal st' ∧ Sim B w0 st' (a.put (some d2) (.tuple #[])) w' m'' := by
    rintro w' m' ⟨e1, e2, e3, e4, e5, e6, e7⟩
    refine ⟨_, m', hk, hs.base, hs.below.trans e3, by rw [put_defers]; exact hs.defers, by rw [put_size]; exact hs.size, ?_, e4, fun i => ?_, fun i c hic => ?_, hs.fr.mono e1 e5 e6 (Nat.le_refl _)⟩
    · exact get_put _ a (some d2) _ _ (by show d2 < a.tmps.size; rw [hs.size]; exact hd2) e7 (fun t => (hs.env t).mono e1 e5 e6)
    · rw [e2, hs.dom]
      show i < n' ∨ _ ↔ i < n'
      omega
    · rw [hset_map h' id _ (keys_ne hs.heap)] at hic
      obtain ⟨p, hp, e⟩ := List.mem_map.1 hic
      have := hs.ids p.1 p.2 hp
      split at e
      · injection e with e1 _; rw [← e1]; exact this
      · have e1 : p.1 = i := by rw [e]
        rw [← e1]; exact this
  have empty : l.length = 0 → ∃ st' m'', K .normal st' ∧ Sim B w0 st' (a.put (some d2) (.tuple #[])) w m'' := by
    intro h0
    have hl0 : l = [] := List.eq_nil_of_length_eq_zero h0
    refine fin w m ?_
    have e : hset h' id (iC l.reverse) = h' := by
      rw [hset_map h' id _ (keys_ne hs.heap)]
      have : iC l.reverse = iC l := by rw [hl0]; rfl
      rw [this]; exact hmap_self hs.heap hin
    rw [e]
    exact ⟨Mm.le.refl m, same_dom, Below.refl _ _, hs.heap, fun b _ h => h, fun b _ _ => rfl, .tup rfl (fun j p v hp => by simp at hp)⟩
  by_cases h0 : l.length = 0
  · rw [h0]
    refine (hr.ez a0 cap w).mono ?_
    rintro e w' ⟨rfl, rfl⟩
    exact empty h0
  · cases ha : m.addr id l.length with
    | none => obtain ⟨rfl, _⟩ := h3 ha; omega
    | some bc =>
      obtain ⟨b, C⟩ := bc
      obtain ⟨h5, h6, h7⟩ := h4 b C ha
      have ha0 := h5 (by omega)
      subst ha0
      obtain ⟨cs, e', hc, hC, hle, hbB, hcell⟩ := hs.heap.read hin hd (by rw [hlen]; exact ha) (by omega)
      have hci : ∀ j, j < l.length → cs[j]? = some (.int .i64 (l.getD j 0)) := by
        intro j hj
        have hjc : j < cs.size := by omega
        have hrr := hcell j _ _ (iC_at hj) (Array.getElem?_eq_getElem hjc)
        rw [Array.getElem?_eq_getElem hjc, hrr.int_inv]
      refine (hr.nz b 0 l.length cap l w (Nat.le_refl _) (by omega) (fun j hj => ?_) (fun j hj => ?_)).mono ?_
      · rw [Nat.zero_add, cell_of hc]; exact hci j hj
      · simp [World.frozen?, hc]
      · rintro e w' ⟨rfl, q, rfl⟩
        have hcq : (w.drewN q).heap[b]? = some (.cells cs e' (0, 0)) := hc
        have hbs : b < w.heap.size := LB_lt hs.heap ⟨id, iC l, C, hin, hd, by rw [hlen]; exact ha⟩
        rw [List.take_length, setCells_wset b e' _ 0 (w.drewN q) cs hcq]
        have hrl : (iC l.reverse).length = (iC l).length := by simp [iC]
        obtain ⟨u1, u2, u3, u4⟩ := upd_entry (w' := wset (w.drewN q) b (setArr cs 0 (l.reverse.map (Value.int .i64))) e') hs.heap hin hd (cells' := iC l.reverse) (by omega) (b' := b) (C' := C) (fun _ => by rw [hlen]; exact ha) (.inr ⟨C, by rw [hlen]; exact ha⟩)
          (fun k hk hne => wset_other (w.drewN q) b _ _ (fun e => hne C (by rw [hlen, e]; exact ha)))
          ⟨setArr cs 0 (l.reverse.map (Value.int .i64)), e', wset_same (w.drewN q) b _ _ hbs, by rw [setArr_size, hC], by omega, hbB, fun j p v hp hv => by
            obtain ⟨x, hx, rfl⟩ := iC_get hp
            have hj := (List.getElem?_eq_some_iff.1 hx).1
            simp only [List.length_reverse] at hj
            rw [setArr_get _ 0 cs (by simp; omega)] at hv
            rw [if_pos (by simp; omega), Nat.sub_zero, List.getElem?_map, hx] at hv
            injection hv with hv; subst hv
            exact rep_int _ _⟩
        refine fin _ _ ⟨u2, same_dom, ?_, by rw [hset_map h' id _ (keys_ne hs.heap)]; exact u1, by rw [hset_map h' id _ (keys_ne hs.heap)]; exact u3, u4, .tup rfl (fun j p v hp => by simp at hp)⟩
        exact ⟨rfl, rfl, rfl, by rw [wset_size]; exact Nat.le_refl _, fun k hk => wset_other (w.drewN q) b _ _ (by omega)⟩
end Go.Fi

