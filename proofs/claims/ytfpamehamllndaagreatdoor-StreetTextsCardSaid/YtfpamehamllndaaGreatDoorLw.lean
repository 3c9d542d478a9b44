/- A logic of abstract states for this claim (part Lw): lemmas alone. -/
import Derived.Test.YtfpamehamllndaaGreatDoorLo
import Derived.Laws.BytesArg
set_option linter.unusedSimpArgs false
set_option linter.unusedVariables false

namespace Go.Fi
open Go Go.RowKit
variable [LaidW]
variable {fk : Fk}

/-- a slice of one byte turned into a text -/
def byteStr (P : Program) (src dst : TypeId) : Bool :=
  match P.underlying src, P.underlying dst with
  | some (.slice e), some .string => match P.underlying e with
    | some (.int .u8) => true
    | _ => false
  | _, _ => false
section
variable {P : Program} {B : Base} {env : Env} {h : Heap} {n nt : Nat} {a : Act} {w : World} {m : Mm}
def ByteM (P : Program) (ops : Array Oper) (nt : Nat) (o : Oper) (post : List Oper) (t : Nat) (e : Env) (h : Heap) (n : Nat) (K : Env → Heap → Nat → Prop) (_ : Mark (o, post, K)) : Prop :=
  dOk nt o.dst ∧ o.guard = none ∧ ∃ id c ow fl, get e t = .msl id 1 1 0 1 ∧ hget h id = some [.w ow fl (.int .u8 c)] ∧ aOps P ops nt post (put e o.dst (.w false false (.str ⟨#[UInt8.ofNat c.toNat]⟩))) h n K
omit [LaidW] in
@[congr] theorem ByteM_congr [LaidW] {ops : Array Oper} {nt : Nat} {o : Oper} {post : List Oper} {t : Nat} {e e' : Env} {h h' : Heap} {n n' : Nat} {K : Env → Heap → Nat → Prop} {mk : Mark (o, post, K)} (h1 : e = e') (h2 : h = h') (h3 : n = n') :
    ByteM P ops nt o post t e h n K mk = ByteM P ops nt o post t e' h' n' K mk := by rw [h1, h2, h3]
theorem byteM_intro {ops : Array Oper} {nt : Nat} {o : Oper} {post : List Oper} {t : Nat} {e : Env} {h : Heap} {n : Nat} {K : Env → Heap → Nat → Prop} {mk : Mark (o, post, K)} {id : Nat} {c : Int} {ow fl : Bool} (hd : dOk nt o.dst) (hg : o.guard = none)
    (h1 : get e t = .msl id 1 1 0 1) (h2 : hget h id = some [.w ow fl (.int .u8 c)]) (hk : aOps P ops nt post (put e o.dst (.w false false (.str ⟨#[UInt8.ofNat c.toNat]⟩))) h n K) : ByteM P ops nt o post t e h n K mk := ⟨hd, hg, id, c, ow, fl, h1, h2, hk⟩
theorem awp_regionB {K : Exit → St → Prop} {id : Nat} {ops : Array Oper} (pre : List Oper) (o : Oper) (post : List Oper) (hops : ops.toList = pre ++ o :: post) {src dst : TypeId} {t : Nat}
    (ho : o.op = .convert src dst (.tmp t)) (hb : byteStr P src dst = true)
    (hk : aOps P ops nt pre env h n fun e' h' n' => ByteM P ops nt o post t e' h' n' (fun e3 h3 n3 => K .normal ⟨e3, h3, n3, nt⟩) .it) :
    AWPk fk P (.region id ops false) ⟨env, h, n, nt⟩ K := by
  intro B w0 a w m hs
  refine wpIn_region_list ?_
  rw [hops]
  refine aOps_app (o :: post) ?_ pre env h n a w m hk hs
  rintro e h n a w m ⟨hdk, hgu, id', c, ow, fl, hg, hh, hk2⟩ hs
  simp only [wpListIn, Region.wanted, hgu, if_true]
  refine wpIn_of_wp (fun c e => by rw [ho] at e; cases e) ?_
  have hx : RepA B (LB m h) m w (.msl id' 1 1 0 1) (a.eval (.tmp t)) := by
    have := hs.env t
    rw [show get (St.env ⟨e, h, n, nt⟩) t = .msl id' 1 1 0 1 from hg] at this
    exact this
  obtain ⟨a0, cap, hv, hkc, hd, hver, h3, h4⟩ := hx.msl_inv
  have hin := hget_mem hh
  unfold byteStr at hb
  split at hb
  · rename_i el hsu hdu
    split at hb
    · rename_i hel
      cases ha : m.addr id' 1 with
      | none => obtain ⟨rfl, _⟩ := h3 ha; omega
      | some bc =>
        obtain ⟨b, C⟩ := bc
        obtain ⟨h5, h6, h7⟩ := h4 b C ha
        have ha0 := h5 (by omega)
        subst ha0
        obtain ⟨cs, e', hc, hC, hle, hbB, hcell⟩ := hs.heap.read hin hd ha (by simp; omega)
        have hpos : 0 < cs.size := by simp at hle; omega
        have hc0 : cs[0]? = some (.int .u8 c) := by
          have := hcell 0 _ _ rfl (Array.getElem?_eq_getElem hpos)
          rw [Array.getElem?_eq_getElem hpos, this.int_inv]
        have hrun : (execOp a.eval o).run P w = .ok (.value (.string ⟨#[UInt8.ofNat c.toNat]⟩)) w := by
          have hcv := run_convert_bytes_arg (P := P) w src el hsu hel b 0 1 cap [c] rfl (fun i hi => by
            obtain rfl : i = 0 := by omega
            rw [Nat.zero_add, cell_of hc]; exact hc0) dst hdu
          simp [execOp, ho, hv, hcv]
          rfl
        unfold Oper.wp
        rw [hrun, Oper.upon_value]
        have hs2 : Sim B w0 ⟨put e o.dst (.w false false (.str ⟨#[UInt8.ofNat c.toNat]⟩)), h, n, nt⟩ (a.put o.dst (.string ⟨#[UInt8.ofNat c.toNat]⟩)) w m := by
          refine ⟨hs.base, hs.below, by rw [put_defers]; exact hs.defers, by rw [put_size]; exact hs.size, ?_, hs.heap, hs.dom, hs.ids, hs.fr⟩
          exact get_put e a o.dst _ _ (by rw [hs.size]; exact hdk) (.w (.str _) (fun h => by cases h)) hs.env
        exact aOps_sound (fun _ _ _ _ _ m hk' hs' => ⟨_, m, hk', hs'⟩) post _ _ _ _ _ m hk2 hs2
    · cases hb
  · cases hb
theorem awp_regionBk {K : Exit → St → Prop} {id : Nat} {ops : Array Oper} (i : Nat) (hi : i < ops.toList.length) {src dst : TypeId} {t : Nat}
    (ho : (ops.toList.getD i default).op = .convert src dst (.tmp t)) (hb : byteStr P src dst = true)
    (hk : aOps P ops nt (ops.toList.take i) env h n fun e' h' n' => ByteM P ops nt (ops.toList.getD i default) (ops.toList.drop (i + 1)) t e' h' n' (fun e3 h3 n3 => K .normal ⟨e3, h3, n3, nt⟩) .it) :
    AWPk fk P (.region id ops false) ⟨env, h, n, nt⟩ K := by
  refine awp_regionB (ops.toList.take i) (ops.toList.getD i default) (ops.toList.drop (i + 1)) ?_ ho hb hk
  have e : ops.toList.getD i default = ops.toList[i] := by simp [List.getD_eq_getElem?_getD, List.getElem?_eq_getElem hi]
  rw [e, List.getElem_cons_drop, List.take_append_drop]
end
end Go.Fi

