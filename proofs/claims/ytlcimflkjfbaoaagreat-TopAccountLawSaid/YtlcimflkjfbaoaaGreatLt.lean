/- A logic of abstract states for this claim (part Lt): lemmas alone. -/
import Derived.Test.YtlcimflkjfbaoaaGreatLh
import Derived.Shelf.GgSortMore.Stable
import Derived.Lib.SortBridge
set_option linter.unusedSimpArgs false
set_option linter.unusedVariables false

namespace Go.Fi
open Go Go.RowKit Go.Proofs Go.Sort
variable [LaidW]
variable {fk : Fk}

def fE (m : Nat) (x : Fin (m + 1)) : Value := .int .i64 (x.val : Int)
def fC {m : Nat} (l : List (Fin (m + 1))) : List AV := l.map fun x => AV.w false false (.int .i64 (x.val : Int))
def uC (l : List Int) : List AV := (l.map (PV.int .u64)).map (AV.w false false)

/-- 'sort.SliceStable' at []int, by its contract -/
structure SortC (P : Program) (f : FuncId) (sl : TypeId) : Prop where
  ent : Enterable P f
  small : ∀ (m g : Nat) (lb : Array Value) (lt : Fin (m + 1) → Fin (m + 1) → Bool) (blk off c : Nat) (d : Array (Fin (m + 1))) (w : World), 2 ≤ d.size → d.size ≤ 20 → (∀ args w, (callFunc g args).run P w = .ok (.enter g args) w) →
    LessReads P g lb (fE m) lt blk off d.size w → Holds (fE m) w blk off d → blk < w.heap.size →
    Calls P f #[.iface sl (.slice (some ⟨blk, off, none⟩) d.size c), .func (.func g) #[] lb] w fun e w' => e = .returned (.tuple #[]) ∧ ∃ n os, w' = grow (putRow (fE m) (Sort.ahead w n) blk off (Sort.insertionSort lt d 0 d.size)) os
  tiny : ∀ (p : Option Addr) (n c : Nat) (g : Nat) (lb : Array Value) (w : World), n ≤ 1 → Calls P f #[.iface sl (.slice p n c), .func (.func g) #[] lb] w fun e w' => e = .returned (.tuple #[]) ∧ ∃ os, w' = grow w os
/-- the closure that compares by numbers of a list -/
def LessC (P : Program) (g : FuncId) (n : Nat) (rs : List Int) : Prop :=
  Enterable P g ∧ ∀ (bW bV bR bO cR cO : Nat) (W : World) (o : Nat → Nat), W.cell? ⟨bW, 0, none⟩ = some (.slice (some ⟨bR, 0, none⟩) n cR) → W.cell? ⟨bV, 0, none⟩ = some (.slice (some ⟨bO, 0, none⟩) n cO) →
    (∀ j, j < n → W.cell? ⟨bR, j, none⟩ = some (.int .u64 (rs.getD j 0))) → (∀ j, j < n → W.cell? ⟨bO, j, none⟩ = some (.int .i64 (o j : Nat))) → (∀ j, j < n → o j < n) → ∀ i k : Nat, i < n → k < n →
    Calls P g #[.int .i64 i, .int .i64 k, .pointer (some ⟨bW, 0, none⟩), .pointer (some ⟨bV, 0, none⟩)] W fun e w' => e = .returned (.bool (decide (rs.getD (o k) 0 < rs.getD (o i) 0))) ∧ ∃ q, w' = W.drewN q

omit [LaidW] in
theorem swp_size {α : Type} [Inhabited α] (d : Array α) (i j : Nat) : (swp d i j).size = d.size := by simp [swp]
omit [LaidW] in
theorem insInner_size {α : Type} [Inhabited α] (lt : α → α → Bool) (a : Nat) : ∀ (j : Nat) (d : Array α), (insInner lt a j d).size = d.size
  | 0, d => rfl
  | j + 1, d => by
    unfold insInner
    split
    · rw [insInner_size lt a j, swp_size]
    · rfl
omit [LaidW] in
theorem insOuter_size {α : Type} [Inhabited α] (lt : α → α → Bool) (a b : Nat) : ∀ (k i : Nat) (d : Array α), b - i = k → (insOuter lt a b i d).size = d.size
  | 0, i, d, h => by unfold insOuter; rw [if_neg (by omega)]
  | k + 1, i, d, h => by unfold insOuter; rw [if_pos (by omega), insOuter_size lt a b k (i + 1) _ (by omega), insInner_size]
omit [LaidW] in
theorem insertionSort_size {α : Type} [Inhabited α] (lt : α → α → Bool) (d : Array α) (a b : Nat) : (insertionSort lt d a b).size = d.size := insOuter_size lt a b _ _ _ rfl
omit [LaidW] in
theorem Sim0.apart {B : Base} {m : Mm} {w : World} {h : Heap} (hs : Sim0 B h m w) {i j : Nat} {c c' : List AV} {b C b' C' : Nat} (h1 : (i, c) ∈ h) (h2 : (j, c') ∈ h) (hne : i ≠ j) (d1 : m.dom i) (d2 : m.dom j) (a1 : m.addr i c.length = some (b, C)) (a2 : m.addr j c'.length = some (b', C')) : b ≠ b' := by
  rintro rfl
  rcases pairwise_at hs.inj (fun a c hac => ⟨fun e => hac.1 e.symm, fun b C C' d1 d2 a1 a2 => hac.2 b C' C d2 d1 a2 a1⟩) h1 h2 with e | e
  · injection e with e _; exact hne e
  · exact e.2 b C C' d1 d2 a1 a2
omit [LaidW] in
/-- a variable's cell that holds a slice of the whole of a place -/
theorem var_cell {B : Base} {m : Mm} {w : World} {h : Heap} (hs : Sim0 B h m w) (hdom : ∀ id c, (id, c) ∈ h → m.dom id) {iV iO n : Nat} {cO : List AV} (hV : hget h iV = some [.msl iO n 1 0 n]) (hO : hget h iO = some cO) (hlen : cO.length = n) (hn : 0 < n) {v : Value} (hp : RepA B (LB m h) m w (.ptr iV 1 0) v) :
    ∃ bV CV bO CO c, v = .pointer (some ⟨bV, 0, none⟩) ∧ w.cell? ⟨bV, 0, none⟩ = some (.slice (some ⟨bO, 0, none⟩) n c) ∧ m.addr iV 1 = some (bV, CV) ∧ m.addr iO n = some (bO, CO) ∧ bV < w.heap.size ∧ bO < w.heap.size ∧ n ≤ CO := by
  obtain ⟨bV, CV, hv, _, ⟨_, hCV1⟩, haV⟩ := hp.ptr_inv
  obtain ⟨cs, e, hc, hC, hle, _, hr⟩ := hs.read (hget_mem hV) (hdom _ _ (hget_mem hV)) haV hCV1
  have h1 : (1 : Nat) ≤ CV := by simpa using hle
  have hlt : 0 < cs.size := by omega
  have hx := hr 0 _ _ rfl (Array.getElem?_eq_getElem hlt)
  obtain ⟨a0, cap, hv2, hkc, _, _, h3, h4⟩ := hx.msl_inv
  cases ha : m.addr iO n with
  | none => obtain ⟨rfl, h0⟩ := h3 ha; omega
  | some bc =>
    obtain ⟨bO, CO⟩ := bc
    obtain ⟨h5, h6, h7⟩ := h4 bO CO ha
    have ha0 := h5 (by omega)
    subst ha0
    refine ⟨bV, CV, bO, CO, cap, hv, ?_, haV, rfl, LB_lt hs ⟨iV, _, CV, hget_mem hV, hdom _ _ (hget_mem hV), haV⟩, LB_lt hs ⟨iO, cO, CO, hget_mem hO, hdom _ _ (hget_mem hO), by rw [hlen]; exact ha⟩, by omega⟩
    rw [cell_of hc, Array.getElem?_eq_getElem hlt, hv2]
omit [LaidW] in
theorem place_cells {B : Base} {m : Mm} {w : World} {h : Heap} (hs : Sim0 B h m w) (hdom : ∀ id c, (id, c) ∈ h → m.dom id) {i b C : Nat} {c : List AV} (hi : hget h i = some c) (ha : m.addr i c.length = some (b, C)) (hlC : c.length ≤ C) :
    ∃ cs e, w.heap[b]? = some (.cells cs e (0, 0)) ∧ cs.size = C ∧ c.length ≤ C ∧ B.n ≤ b ∧ ∀ (j : Nat) k n, c[j]? = some (.w false false (.int k n)) → cs[j]? = some (.int k n) := by
  obtain ⟨cs, e, hc, hC, hle, hb, hr⟩ := hs.read (hget_mem hi) (hdom _ _ (hget_mem hi)) ha hlC
  refine ⟨cs, e, hc, hC, hle, hb, fun j k n hj => ?_⟩
  have hjl := (List.getElem?_eq_some_iff.1 hj).1
  have hlt : j < cs.size := by omega
  rw [Array.getElem?_eq_getElem hlt, (hr j _ _ hj (Array.getElem?_eq_getElem hlt)).int_inv]

theorem awp_sort {P : Program} {f g : FuncId} {sl : TypeId} (hsc : SortC P f sl) {K : Exit → St → Prop} {rid d1 d2 d3 d4 tO tR ty1 ty2 ty3 ty4 iV iW iO iR N : Nat} {p1 p2 p3 p4 : String} {a1 a2 a3 a4 : Array Edge} {tys : Array TypeId} {env : Env} {h : Heap} {n nt : Nat}
    {rs : List Int} (hlc : LessC P g (N + 1) rs) (l : List (Fin (N + 1))) (hl : l.length = N + 1) (hrl : rs.length = N + 1) (h20 : N + 1 ≤ 20)
    (hO : get env tO = .ptr iV 1 0) (hR : get env tR = .ptr iW 1 0) (hV : hget h iV = some [.msl iO (N + 1) 1 0 (N + 1)]) (hW : hget h iW = some [.msl iR (N + 1) 1 0 (N + 1)]) (hOc : hget h iO = some (fC l)) (hRc : hget h iR = some (uC rs))
    (ht : tyL P sl = some (1, false)) (hni : nIfc P sl = true) (hne : iO ≠ iV ∧ iO ≠ iW ∧ iO ≠ iR) (hd1 : d1 < nt) (hd2 : d2 < nt) (hd3 : d3 < nt) (hd4 : d4 < nt) (hdd : d1 ≠ d2 ∧ d2 ≠ d3 ∧ d1 ≠ tO ∧ d1 ≠ tR ∧ d2 ≠ tO ∧ d2 ≠ tR)
    (hk : K .normal ⟨(d4, .tup []) :: (d3, .w false false .undef) :: (d2, .w false false .undef) :: (d1, .msl iO (N + 1) 1 0 (N + 1)) :: env, hset h iO (fC (Sort.insertionSort (fun a b => decide (rs.getD b.val 0 < rs.getD a.val 0)) l.toArray 0 (N + 1)).toList), n, nt⟩) :
    AWPk fk P (.region rid #[⟨some d1, .load sl (.tmp tO), ty1, p1, a1, none⟩, ⟨some d2, .makeInterface sl (.tmp d1), ty2, p2, a2, none⟩, ⟨some d3, .makeFunc (.func g) #[] #[.tmp tR, .tmp tO], ty3, p3, a3, none⟩, ⟨some d4, .call ⟨.value (.func f), #[.tmp d2, .tmp d3], tys⟩, ty4, p4, a4, none⟩] false) ⟨env, h, n, nt⟩ K := by
  intro B w0 a w m hs
  refine wpIn_region_list ?_
  simp only [wpListIn, Region.wanted, if_true]
  refine wpIn_of_wp (fun c e => by cases e) (estep_sound w0 (⟨some d1, .load sl (.tmp tO), ty1, p1, a1, none⟩ : Oper) (K := fun v h' n' => v = .msl iO (N + 1) 1 0 (N + 1) ∧ h' = h ∧ n' = n) ?_ hs hd1 _ _ ?_)
  · simp [EStep, QStep, aOp, ht, ev, hO, hV, nthA, addE]
  rintro v h' n' a w m ⟨rfl, rfl, rfl⟩ hs
  obtain ⟨e1, e2, e3⟩ := hne
  have hdom : ∀ id c, (id, c) ∈ h' → m.dom id := fun id c hin => (hs.dom id).2 (hs.ids id c hin)
  have hB := hs.room
  have envd1 : RepA B (LB m h') m w (.msl iO (N + 1) 1 0 (N + 1)) (a.tmps.getD d1 undef) := by
    have := hs.env d1
    rw [show get (St.env ⟨put env (some d1) (.msl iO (N + 1) 1 0 (N + 1)), h', n', nt⟩) d1 = .msl iO (N + 1) 1 0 (N + 1) from by simp [put, get]] at this
    exact this
  have envO : RepA B (LB m h') m w (.ptr iV 1 0) (a.tmps.getD tO undef) := by
    have := hs.env tO
    rw [show get (St.env ⟨put env (some d1) (.msl iO (N + 1) 1 0 (N + 1)), h', n', nt⟩) tO = .ptr iV 1 0 from by simp [put, get, hdd, hO]] at this
    exact this
  have envR : RepA B (LB m h') m w (.ptr iW 1 0) (a.tmps.getD tR undef) := by
    have := hs.env tR
    rw [show get (St.env ⟨put env (some d1) (.msl iO (N + 1) 1 0 (N + 1)), h', n', nt⟩) tR = .ptr iW 1 0 from by simp [put, get, hdd, hR]] at this
    exact this
  have lenO : (fC l).length = N + 1 := by simp [fC, hl]
  have lenR : (uC rs).length = N + 1 := by simp [uC, hrl]
  obtain ⟨bV, CV, bO, CO, cO, vO, cellV, addV, addO, ltV, ltO, leO⟩ := var_cell hs.heap hdom hV hOc lenO (Nat.succ_pos _) envO
  obtain ⟨bW, CW, bR, CR, cR, vR, cellW, addW, addR, ltW, ltR, leR⟩ := var_cell hs.heap hdom hW hRc lenR (Nat.succ_pos _) envR
  obtain ⟨csO, eO, hcO, hCO, hleO, hBO, hrO⟩ := place_cells hs.heap hdom hOc (by rw [lenO]; exact addO) (by rw [lenO]; exact leO)
  obtain ⟨csR, eR, hcR, hCR, hleR, hBR, hrR⟩ := place_cells hs.heap hdom hRc (by rw [lenR]; exact addR) (by rw [lenR]; exact leR)
  have nVO : bO ≠ bV := hs.heap.apart (hget_mem hOc) (hget_mem hV) e1 (hdom _ _ (hget_mem hOc)) (hdom _ _ (hget_mem hV)) (by rw [lenO]; exact addO) addV
  have nWO : bO ≠ bW := hs.heap.apart (hget_mem hOc) (hget_mem hW) e2 (hdom _ _ (hget_mem hOc)) (hdom _ _ (hget_mem hW)) (by rw [lenO]; exact addO) addW
  have nRO : bO ≠ bR := hs.heap.apart (hget_mem hOc) (hget_mem hRc) e3 (hdom _ _ (hget_mem hOc)) (hdom _ _ (hget_mem hRc)) (by rw [lenO]; exact addO) (by rw [lenR]; exact addR)
  obtain ⟨s0, cap, vd1, hkc, _, _, _, hs4⟩ := envd1.msl_inv
  have hs0 : s0 = some ⟨bO, 0, none⟩ := (hs4 bO CO addO).1 (by omega)
  subst hs0
  -- the two values that are made
  have sz : a.tmps.size = nt := hs.size
  have r2 : (execOp a.eval ⟨some d2, .makeInterface sl (.tmp d1), ty2, p2, a2, none⟩).run P w = .ok (.value (.iface sl (.slice (some ⟨bO, 0, none⟩) (N + 1) cap))) w := by
    have hv : a.eval (.tmp d1) = .slice (some ⟨bO, 0, none⟩) (N + 1) cap := vd1
    unfold nIfc at hni
    split at hni
    · cases hni
    · rename_i d hd hu
      simp only [execOp, hv, Instr.makeInterface, Sem.run_bind, run_underlying hu, Result.andThen_ok]
      cases d <;> first | rfl | exact absurd rfl (hd _)
    · cases hni
  refine wpIn_of_wp (fun c e => by cases e) ?_
  unfold Oper.wp
  rw [r2, Oper.upon_value]
  generalize hb : a.put (some d2) (.iface sl (.slice (some ⟨bO, 0, none⟩) (N + 1) cap)) = b
  have hbO : b.eval (.tmp tO) = .pointer (some ⟨bV, 0, none⟩) := by
    rw [← hb, ← vO]; simp [Act.eval, Act.put, Array.getElem?_setIfInBounds, hdd.2.2.2.2.1]
  have hbR : b.eval (.tmp tR) = .pointer (some ⟨bW, 0, none⟩) := by
    rw [← hb, ← vR]; simp [Act.eval, Act.put, Array.getElem?_setIfInBounds, hdd.2.2.2.2.2]
  have hb2 : b.eval (.tmp d2) = .iface sl (.slice (some ⟨bO, 0, none⟩) (N + 1) cap) := by
    rw [← hb]; simp [Act.eval, Act.put, sz, hd2]
  have r3 : (execOp b.eval ⟨some d3, .makeFunc (.func g) #[] #[.tmp tR, .tmp tO], ty3, p3, a3, none⟩).run P w = .ok (.value (.func (.func g) #[] #[.pointer (some ⟨bW, 0, none⟩), .pointer (some ⟨bV, 0, none⟩)])) w := by
    simp [execOp, Instr.makeFunc, hbO, hbR]
  refine wpIn_of_wp (fun c e => by cases e) ?_
  unfold Oper.wp
  rw [r3, Oper.upon_value]
  generalize hb' : b.put (some d3) (.func (.func g) #[] #[.pointer (some ⟨bW, 0, none⟩), .pointer (some ⟨bV, 0, none⟩)]) = c
  have szb : b.tmps.size = nt := by rw [← hb, put_size]; exact sz
  have hc2 : c.eval (.tmp d2) = .iface sl (.slice (some ⟨bO, 0, none⟩) (N + 1) cap) := by
    rw [← hb', ← hb2]; simp [Act.eval, Act.put, Array.getElem?_setIfInBounds, Ne.symm hdd.2.1]
  have hc3 : c.eval (.tmp d3) = .func (.func g) #[] #[.pointer (some ⟨bW, 0, none⟩), .pointer (some ⟨bV, 0, none⟩)] := by
    rw [← hb']; simp [Act.eval, Act.put, szb, hd3]
  obtain ⟨fn, hfn, hname, hbody⟩ := hsc.ent
  have r4 : (execOp c.eval ⟨some d4, .call ⟨.value (.func f), #[.tmp d2, .tmp d3], tys⟩, ty4, p4, a4, none⟩).run P w = .ok (.enter f #[.iface sl (.slice (some ⟨bO, 0, none⟩) (N + 1) cap), .func (.func g) #[] #[.pointer (some ⟨bW, 0, none⟩), .pointer (some ⟨bV, 0, none⟩)]]) w := by
    have hn' : ¬ fn.name = "runtime.NumGoroutine" := by simpa using hname
    have hb'' : ¬ fn.body = none := by intro h; simp [h] at hbody
    simp [execOp, resolve, Act.eval, Deferred.ofValue, invoke, callFunc, hfn, hn', hb''] at hc2 hc3 ⊢
    exact ⟨hc2, hc3⟩
  refine wpIn_of_wp (fun c e => by cases e) ?_
  unfold Oper.wp
  rw [r4, Oper.upon_enter]
  -- the end
  have fin : ∀ w' m', EPost B h' m w n' (hset h' iO (fC (Sort.insertionSort (fun a b => decide (rs.getD b.val 0 < rs.getD a.val 0)) l.toArray 0 (N + 1)).toList)) n' (.tup []) (.tuple #[]) w' m' → ∃ st' m'', K .normal st' ∧ Sim B w0 st' (c.put (some d4) (.tuple #[])) w' m'' := by
    rintro w' m' ⟨g1, g2, g3, g4, g5, g6, g7⟩
    refine ⟨_, m', hk, hs.base, hs.below.trans g3, ?_, ?_, ?_, g4, fun i => ?_, fun i c hic => ?_, hs.fr.mono g1 g5 g6 (Nat.le_refl _)⟩
    · rw [put_defers, ← hb', put_defers, ← hb, put_defers]; exact hs.defers
    · rw [put_size, ← hb', put_size]; exact szb
    · have q1 : ∀ t, RepA B (LB m' (hset h' iO (fC (Sort.insertionSort (fun a b => decide (rs.getD b.val 0 < rs.getD a.val 0)) l.toArray 0 (N + 1)).toList))) m' w' (get ((d2, .w false false .undef) :: (d1, .msl iO (N + 1) 1 0 (N + 1)) :: env) t) (b.tmps.getD t undef) := by
        rw [← hb]
        exact get_put _ a (some d2) _ _ (by show d2 < a.tmps.size; rw [sz]; exact hd2) (.w (.undef _) (fun h => by cases h)) (fun t => (hs.env t).mono g1 g5 g6)
      have q2 : ∀ t, RepA B (LB m' (hset h' iO (fC (Sort.insertionSort (fun a b => decide (rs.getD b.val 0 < rs.getD a.val 0)) l.toArray 0 (N + 1)).toList))) m' w' (get ((d3, .w false false .undef) :: (d2, .w false false .undef) :: (d1, .msl iO (N + 1) 1 0 (N + 1)) :: env) t) (c.tmps.getD t undef) := by
        rw [← hb']
        exact get_put _ b (some d3) _ _ (by show d3 < b.tmps.size; rw [szb]; exact hd3) (.w (.undef _) (fun h => by cases h)) q1
      exact get_put _ c (some d4) _ _ (by show d4 < c.tmps.size; rw [← hb', put_size, szb]; exact hd4) g7 q2
    · rw [g2, hs.dom]
      show i < n' ∨ _ ↔ i < n'
      omega
    · rw [hset_map h' iO _ (keys_ne hs.heap)] at hic
      obtain ⟨p, hp, e⟩ := List.mem_map.1 hic
      have := hs.ids p.1 p.2 hp
      split at e
      · injection e with e1 _; rw [← e1]; exact this
      · have e1 : p.1 = i := by rw [e]
        rw [← e1]; exact this
  have hdl : l.toArray.size = N + 1 := by simp [hl]
  have hgetl : ∀ j, j < N + 1 → (fC l)[j]? = some (.w false false (.int .i64 ((l.toArray[j]!).val : Int))) := by
    intro j hj
    have hj' : j < l.length := by omega
    simp [fC, List.getElem?_map, List.getElem?_eq_getElem hj', getElem!_pos, hj']
  have hH : Holds (fE N) w bO 0 l.toArray := by
    intro j hj
    rw [hdl] at hj
    refine ⟨?_, by simp [World.frozen?, hcO]⟩
    rw [Nat.zero_add, cell_of hcO]
    exact hrO j _ _ (hgetl j hj)
  by_cases h2 : 2 ≤ N + 1
  · have hless : LessReads P g #[.pointer (some ⟨bW, 0, none⟩), .pointer (some ⟨bV, 0, none⟩)] (fE N) (fun a b => decide (rs.getD b.val 0 < rs.getD a.val 0)) bO 0 l.toArray.size w := by
      intro q os dk hsz i j hi hj
      rw [hdl] at hsz hi hj
      have ew : sortWorld (fE N) w bO 0 q dk os = putRow (fE N) (grow (Sort.ahead w q) os) bO 0 dk := by
        unfold sortWorld; rw [putRow_grow _ (Sort.ahead w q) _ bO 0 _ ltO]
      have hHg : Holds (fE N) (grow (Sort.ahead w q) os) bO 0 l.toArray := holds_grow _ _ _ bO 0 _ ltO (holds_ahead _ _ _ _ _ _ hH)
      have other : ∀ (k o : Nat) (v : Value), k ≠ bO → k < w.heap.size → w.cell? ⟨k, o, none⟩ = some v → (putRow (fE N) (grow (Sort.ahead w q) os) bO 0 dk).cell? ⟨k, o, none⟩ = some v := by
        intro k o v hk hlt hv
        rw [cell?_putRow_other _ _ bO 0 dk _ (Or.inl hk), cell?_grow _ _ _ hlt]
        exact hv
      refine (hlc.2 bW bV bR bO cR cO _ (fun t => (dk[t]!).val) ?_ ?_ (fun t ht => ?_) (fun t ht => ?_) (fun t _ => (dk[t]!).isLt) i j hi hj).mono ?_
      · rw [ew]; exact other _ _ _ (Ne.symm nWO) ltW cellW
      · rw [ew]; exact other _ _ _ (Ne.symm nVO) ltV cellV
      · rw [ew]
        refine other _ _ _ (Ne.symm nRO) ltR ?_
        rw [cell_of hcR]
        have htl : t < rs.length := by omega
        exact hrR t _ _ (by simp [uC, List.getElem?_map, List.getElem?_eq_getElem htl, List.getD_eq_getElem?_getD])
      · rw [ew]
        have := cell?_putRow (fE N) (grow (Sort.ahead w q) os) bO 0 l.toArray dk hHg (by omega) t (by omega)
        rw [Nat.zero_add] at this
        exact this
      · exact fun e w' h => h
    have hent : ∀ args w, (callFunc g args).run P w = .ok (.enter g args) w := by
      obtain ⟨fn, h1, h2, h3⟩ := hlc.1
      have hn' : ¬ fn.name = "runtime.NumGoroutine" := by simpa using h2
      have hb'' : ¬ fn.body = none := by intro h; simp [h] at h3
      intro args w
      simp [callFunc, h1, hn', hb'']
    have hcall := hsc.small N g _ _ bO 0 cap l.toArray w (by omega) (by omega) hent hless hH ltO
    rw [hdl] at hcall
    refine hcall.mono ?_
    rintro e w' ⟨rfl, q, os, rfl⟩
    generalize hsrt : Sort.insertionSort (fun a b => decide (rs.getD b.val 0 < rs.getD a.val 0)) l.toArray 0 (N + 1) = S at fin ⊢
    have hSs : S.size = N + 1 := by rw [← hsrt, insertionSort_size]; exact hdl
    have hgrow := Lib.sorted_world (fE N) w bO 0 q l.toArray S.toList os hH (by simp [hSs, hdl])
    rw [show S.toList.toArray = S from by simp] at hgrow
    rw [hgrow]
    have hcq : (w.drewN q).heap[bO]? = some (.cells csO eO (0, 0)) := hcO
    rw [setCells_wset bO eO _ 0 (w.drewN q) csO hcq]
    have hfl : (fC S.toList).length = (fC l).length := by simp [fC, hSs, hl]
    have old : ∀ k, k < w.heap.size → (grow (wset (w.drewN q) bO (setArr csO 0 (S.toList.map (fE N))) eO) os).heap[k]? = (wset (w.drewN q) bO (setArr csO 0 (S.toList.map (fE N))) eO).heap[k]? := fun k hk =>
      Array.getElem?_append_left (by rw [wset_size]; exact hk)
    obtain ⟨u1, u2, u3, u4⟩ := upd_entry (w' := grow (wset (w.drewN q) bO (setArr csO 0 (S.toList.map (fE N))) eO) os) hs.heap (hget_mem hOc) (hdom _ _ (hget_mem hOc)) (cells' := fC S.toList) (by omega) (b' := bO) (C' := CO) (fun _ => by rw [lenO]; exact addO) (.inr ⟨CO, by rw [lenO]; exact addO⟩)
      (fun k hk hne => by rw [old k hk]; exact wset_other (w.drewN q) bO _ _ (fun e => hne CO (by rw [lenO, e]; exact addO)))
      ⟨setArr csO 0 (S.toList.map (fE N)), eO, by rw [old bO ltO]; exact wset_same (w.drewN q) bO _ _ ltO, by rw [setArr_size, hCO], by omega, hBO, fun j p v hp hv => by
        unfold fC at hp
        obtain ⟨x, hx, rfl⟩ := getElem?_map_some hp
        have hj := (List.getElem?_eq_some_iff.1 hx).1
        simp only [Array.length_toList] at hj
        rw [setArr_get _ 0 csO (by simp; omega)] at hv
        rw [if_pos (by simp; omega), Nat.sub_zero, List.getElem?_map, hx] at hv
        injection hv with hv; subst hv
        exact rep_int _ _⟩
    refine fin _ _ ⟨u2, same_dom, ?_, by rw [hset_map h' iO _ (keys_ne hs.heap)]; exact u1, by rw [hset_map h' iO _ (keys_ne hs.heap)]; exact u3, u4, .tup rfl (fun j p v hp => by simp at hp)⟩
    refine ⟨rfl, rfl, rfl, ?_, fun k hk => ?_⟩
    · show w.heap.size ≤ ((wset (w.drewN q) bO (setArr csO 0 (S.toList.map (fE N))) eO).heap ++ os).size
      rw [Array.size_append, wset_size]; exact Nat.le_add_right _ _
    · rw [old k (by omega)]; exact wset_other (w.drewN q) bO _ _ (by omega)
  · refine (hsc.tiny _ _ cap g _ w (by omega)).mono ?_
    rintro e w' ⟨rfl, os, rfl⟩
    have hN : N = 0 := by omega
    have hsame : fC (Sort.insertionSort (fun a b => decide (rs.getD b.val 0 < rs.getD a.val 0)) l.toArray 0 (N + 1)).toList = fC l := by
      subst hN
      have : (Sort.insertionSort (fun a b : Fin 1 => decide (rs.getD b.val 0 < rs.getD a.val 0)) l.toArray 0 1).toList.length = l.length := by
        rw [Array.length_toList, insertionSort_size]; simp
      generalize (Sort.insertionSort (fun a b : Fin 1 => decide (rs.getD b.val 0 < rs.getD a.val 0)) l.toArray 0 1).toList = l2 at this
      match l, l2, hl, this with
      | [x], [y], _, _ => rw [Fin.fin_one_eq_zero x, Fin.fin_one_eq_zero y]
    refine fin _ m ⟨Mm.le.refl m, same_dom, ?_, ?_, fun b _ h => ?_, fun k hk _ => ?_, .tup rfl (fun j p v hp => by simp at hp)⟩
    · refine ⟨rfl, rfl, rfl, ?_, fun k hk => ?_⟩
      · show w.heap.size ≤ (w.heap ++ os).size
        rw [Array.size_append]; exact Nat.le_add_right _ _
      · exact Array.getElem?_append_left (by omega)
    · rw [hsame, hset_map h' iO _ (keys_ne hs.heap), show h'.map _ = h' from hmap_self hs.heap (hget_mem hOc)]
      refine hs.heap.below ⟨rfl, rfl, rfl, ?_, fun k hk => Array.getElem?_append_left hk⟩
      show w.heap.size ≤ (w.heap ++ os).size
      rw [Array.size_append]; exact Nat.le_add_right _ _
    · rw [hsame, hset_map h' iO _ (keys_ne hs.heap), show h'.map _ = h' from hmap_self hs.heap (hget_mem hOc)]
      exact h
    · exact Array.getElem?_append_left hk
theorem awp_sortS {P : Program} {f g : FuncId} {sl : TypeId} (hsc : SortC P f sl) {K : Exit → St → Prop} {rid d1 d2 d3 d4 tO tR ty1 ty2 ty3 ty4 iV iW iO iR N : Nat} {p1 p2 p3 p4 : String} {a1 a2 a3 a4 : Array Edge} {tys : Array TypeId} {env : Env} {h : Heap} {n nt : Nat}
    {rs : List Int} (hlc : LessC P g (N + 1) rs) (l : List (Fin (N + 1))) {S : List (Fin (N + 1))} (hS : (Sort.insertionSort (fun a b : Fin (N + 1) => decide (rs.getD b.val 0 < rs.getD a.val 0)) l.toArray 0 (N + 1)).toList = S) (hl : l.length = N + 1) (hrl : rs.length = N + 1) (h20 : N + 1 ≤ 20)
    (hO : get env tO = .ptr iV 1 0) (hR : get env tR = .ptr iW 1 0) (hV : hget h iV = some [.msl iO (N + 1) 1 0 (N + 1)]) (hW : hget h iW = some [.msl iR (N + 1) 1 0 (N + 1)]) (hOc : hget h iO = some (fC l)) (hRc : hget h iR = some (uC rs))
    (ht : tyL P sl = some (1, false)) (hni : nIfc P sl = true) (hne : iO ≠ iV ∧ iO ≠ iW ∧ iO ≠ iR) (hd1 : d1 < nt) (hd2 : d2 < nt) (hd3 : d3 < nt) (hd4 : d4 < nt) (hdd : d1 ≠ d2 ∧ d2 ≠ d3 ∧ d1 ≠ tO ∧ d1 ≠ tR ∧ d2 ≠ tO ∧ d2 ≠ tR)
    (hk : K .normal ⟨(d4, .tup []) :: (d3, .w false false .undef) :: (d2, .w false false .undef) :: (d1, .msl iO (N + 1) 1 0 (N + 1)) :: env, hset h iO (fC S), n, nt⟩) :
    AWPk fk P (.region rid #[⟨some d1, .load sl (.tmp tO), ty1, p1, a1, none⟩, ⟨some d2, .makeInterface sl (.tmp d1), ty2, p2, a2, none⟩, ⟨some d3, .makeFunc (.func g) #[] #[.tmp tR, .tmp tO], ty3, p3, a3, none⟩, ⟨some d4, .call ⟨.value (.func f), #[.tmp d2, .tmp d3], tys⟩, ty4, p4, a4, none⟩] false) ⟨env, h, n, nt⟩ K := by
  subst hS
  exact awp_sort hsc hlc l hl hrl h20 hO hR hV hW hOc hRc ht hni hne hd1 hd2 hd3 hd4 hdd hk
end Go.Fi

