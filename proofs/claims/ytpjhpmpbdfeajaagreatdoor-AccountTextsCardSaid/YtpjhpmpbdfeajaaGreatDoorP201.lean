/- Contracts of functions for this claim: lemmas alone. -/
import Derived.Test.YtpjhpmpbdfeajaaGreatDoorP9
import Derived.WalkKit
import Derived.LaidEql
import Derived.Stop.Asserts
import Derived.RowKitTokens
import Derived.Test.YtpjhpmpbdfeajaaGreatDoorLh
set_option linter.unusedSimpArgs false
set_option linter.unusedVariables false
namespace Go.Proofs.YtpjhpmpbdfeajaaGreatDoor
open Go Go.Fi Go.RowKit Go.Extern.Stop Go.Stop Go.Extern
set_option maxRecDepth 20000

/-! ### errors.As at a target of the program's own type of errors (after the guide's worked example) -/
theorem Tw.valueOf27 (t : Addr) (w : World) : (ReflectliteValue.unpack (.iface 99 (.pointer (some t)))).run Tryz.prog w
    = .ok (.agg #[.pointer (some ⟨11, 99, none⟩), .pointer (some ⟨w.heap.size, 0, none⟩), .int .u64 150]) (w.alloc (.cells #[.pointer (some t)] 99)) := by kernel_rfl
theorem Tw.type27 (a : Addr) (w : World) : (ReflectliteValue.methodAny (ReflectliteValue.valueError "reflectlite.Value.Type" 0) (fun t _ _ _ => ReflectliteType.toType t) #[.agg #[.pointer (some ⟨11, 99, none⟩), .pointer (some a), .int .u64 150]]).run Tryz.prog w
    = .ok (.iface 195 (.agg #[.pointer (some ⟨11, 99, none⟩)])) w := by kernel_rfl
theorem Tw.methodKind (h : Value) (w : World) : (Go.method 382 195 (.agg #[h]) "Kind").run Tryz.prog w = .ok (205, h) w := by kernel_rfl
theorem Tw.kind27 (w : World) : ((ReflectliteType.abiMethod fun t => (fun a : Nat => Value.int IntKind.u8 (a : Int)) <$> Rtype.kind t) #[.pointer (some ⟨11, 99, none⟩)]).run Tryz.prog w = .ok (.int .u8 22) w := by kernel_rfl
theorem Tw.kind25 (w : World) : ((ReflectliteType.abiMethod fun t => (fun a : Nat => Value.int IntKind.u8 (a : Int)) <$> Rtype.kind t) #[.pointer (some ⟨11, 97, none⟩)]).run Tryz.prog w = .ok (.int .u8 24) w := by kernel_rfl

/-! ### THE ENTRIES THAT READ OR WRITE MEMORY: laws with a premise on the cell (after Derived/Lib/ReflectliteSlice.lean's manner: each unfolding a lemma of its own, by rfl) -/
theorem rlm (z : Sem Value) (f : TypeId → Addr → Nat → Nat → Sem Value) (v : Value) :
    ReflectliteValue.method z f #[v] = (do match ← ReflectliteValue.parts v with | none => z | some (t, a, fl) => f t a fl (fl % 32)) := rfl
theorem Tw.parts27 (a : Addr) (w : World) : (ReflectliteValue.parts (.agg #[.pointer (some ⟨11, 99, none⟩), .pointer (some a), .int .u64 150])).run Tryz.prog w = .ok (some (99, a, 150)) w := by kernel_rfl
/-- (Value).IsNil at the Value of a **p.E that is not nil. -/
theorem Tw.isNil27 (a p : Addr) (W : World) (ha : W.cell? a = some (.pointer (some p))) :
    (ReflectliteValue.method (ReflectliteValue.valueError "reflectlite.Value.IsNil" 0) ReflectliteValue.isNil #[.agg #[.pointer (some ⟨11, 99, none⟩), .pointer (some a), .int .u64 150]]).run Tryz.prog W = .ok (.bool false) W := by
  rw [rlm]
  simp only [Sem.run_bind, Tw.parts27, Result.andThen]
  simp [ReflectliteValue.isNil, loadVar, isAgg, underlying, Tryz.underlying99, ha, Result.andThen]

theorem Tw.methodElem (h : Value) (w : World) : (Go.method 382 195 (.agg #[h]) "Elem").run Tryz.prog w = .ok (216, .agg #[h]) w := by kernel_rfl
theorem Tw.methodImplements (h : Value) (w : World) : (Go.method 382 195 (.agg #[h]) "Implements").run Tryz.prog w = .ok (217, .agg #[h]) w := by kernel_rfl
theorem Tw.methodAssignableTo (h : Value) (w : World) : (Go.method 382 195 (.agg #[h]) "AssignableTo").run Tryz.prog w = .ok (214, .agg #[h]) w := by kernel_rfl
theorem Tw.elem27 (w : World) : (ReflectliteType.method ReflectliteType.elem #[.agg #[.pointer (some ⟨11, 99, none⟩)]]).run Tryz.prog w = .ok (.iface 195 (.agg #[.pointer (some ⟨11, 97, none⟩)])) w := by kernel_rfl
theorem Tw.implements25 (w : World) : (ReflectliteType.relation "Implements" ReflectliteType.implements_ #[.agg #[.pointer (some ⟨11, 97, none⟩)], .iface 195 (.agg #[.pointer (some ⟨11, 94, none⟩)])]).run Tryz.prog w = .ok (.bool true) w := by kernel_rfl
theorem Tw.typeOf25 (v : Value) (w : World) : (ReflectliteType.typeOf #[.iface 97 v]).run Tryz.prog w = .ok (.iface 195 (.agg #[.pointer (some ⟨11, 97, none⟩)])) w := by kernel_rfl
theorem Tw.assignable25 (w : World) : (ReflectliteType.relation "AssignableTo" ReflectliteType.assignableTo #[.agg #[.pointer (some ⟨11, 97, none⟩)], .iface 195 (.agg #[.pointer (some ⟨11, 97, none⟩)])]).run Tryz.prog w = .ok (.bool true) w := by kernel_rfl
theorem Tw.valueOf25 (e : ByteArray) (w : World) : (ReflectliteValue.unpack (.iface 97 (.string e))).run Tryz.prog w
    = .ok (.agg #[.pointer (some ⟨11, 97, none⟩), .pointer (some ⟨w.heap.size, 0, none⟩), .int .u64 152]) (w.alloc (.cells #[.string e] 97)) := by kernel_rfl

theorem Tw.elemOf27 (w : World) : (Rtype.elem? 99).run Tryz.prog w = .ok (some 97) w := by kernel_rfl
theorem Tw.mk25 (p : Addr) (w : World) : (ReflectliteValue.mk 97 p ReflectliteValue.flagAddr).run Tryz.prog w = .ok (.agg #[.pointer (some ⟨11, 97, none⟩), .pointer (some p), .int .u64 408]) w := by kernel_rfl
/-- (Value).Elem at the Value of a **p.E that is not nil: the Value of the *p.E variable that it points to, addressable. -/
theorem Tw.elemV27 (a p : Addr) (W : World) (ha : W.cell? a = some (.pointer (some p))) :
    (ReflectliteValue.method (ReflectliteValue.valueError "reflectlite.Value.Elem" 0) ReflectliteValue.elem #[.agg #[.pointer (some ⟨11, 99, none⟩), .pointer (some a), .int .u64 150]]).run Tryz.prog W
      = .ok (.agg #[.pointer (some ⟨11, 97, none⟩), .pointer (some p), .int .u64 408]) W := by
  rw [rlm]
  simp only [Sem.run_bind, Tw.parts27, Result.andThen]
  simp [ReflectliteValue.elem, loadVar, isAgg, underlying, Tryz.underlying99, ha, Result.andThen, Tw.elemOf27, Tw.mk25]
theorem rls (v x : Value) : ReflectliteValue.set #[v, x] = (do
    let (some (dst, a, fl), some (src, b, _)) := (← ReflectliteValue.parts v, ← ReflectliteValue.parts x)
      | unsupported (.noEntry "extern/(internal/reflectlite.Value).Set.zeroValue")
    if fl / ReflectliteValue.flagAddr % 2 == 0 then unsupported (.noEntry "extern/(internal/reflectlite.Value).Set.unaddressable")
    let val ← loadVar src b
    if ← Rtype.directlyAssignable dst src then storeVar dst a val
    else if ← Rtype.implements dst src then
      if (← Rtype.kind src) == 20 then
        match val with
        | .nilIface => unsupported (.noEntry "extern/reflectlite: a nil value of one interface type handed on as a value of another")
        | _ => storeVar dst a val
      else storeVar dst a (.iface src val)
    else panicString ("reflectlite.Set: value of type " ++ (← Rtype.spelt src) ++ " is not assignable to type " ++ (← Rtype.spelt dst))
    pure (.tuple #[])) := rfl
theorem Tw.parts25a (a : Addr) (w : World) : (ReflectliteValue.parts (.agg #[.pointer (some ⟨11, 97, none⟩), .pointer (some a), .int .u64 408])).run Tryz.prog w = .ok (some (97, a, 408)) w := by kernel_rfl
theorem Tw.parts25 (a : Addr) (w : World) : (ReflectliteValue.parts (.agg #[.pointer (some ⟨11, 97, none⟩), .pointer (some a), .int .u64 152])).run Tryz.prog w = .ok (some (97, a, 152)) w := by kernel_rfl
theorem Tw.direct25 (w : World) : (Rtype.directlyAssignable 97 97).run Tryz.prog w = .ok true w := by kernel_rfl
/-- (Value).Set: the *p.E variable at 'ta' gets what the Value's own variable 'b' holds. -/
theorem Tw.set25 (ta b : Addr) (e : ByteArray) (old : Value) (W : World) (hb : W.cell? b = some (.string e)) (ht : W.cell? ta = some old) (hf : W.frozen? ta = false) :
    (ReflectliteValue.set #[.agg #[.pointer (some ⟨11, 97, none⟩), .pointer (some ta), .int .u64 408], .agg #[.pointer (some ⟨11, 97, none⟩), .pointer (some b), .int .u64 152]]).run Tryz.prog W
      = .ok (.tuple #[]) (W.setCell ta (.string e)) := by
  rw [rls]
  simp only [Sem.run_bind, Tw.parts25a, Tw.parts25, Result.andThen]
  simp [ReflectliteValue.flagAddr, loadVar, isAgg, underlying, Tryz.underlying97, hb, Result.andThen, Tw.direct25, storeVar, Value.cells, storeCells, Addr.add]
  rw [run_store Tryz.prog W ta _ _ (by rfl)]
  simp [ht, hf]

set_option maxHeartbeats 4000000 in
theorem as_hit (e : ByteArray) (t : Addr) (old : Value) (w : World) (hg : w.cell? ⟨0, 0, none⟩ = some (.iface 195 (.agg #[.pointer (some ⟨11, 94, none⟩)]))) (ht0 : w.cell? t = some old) (hf0 : w.frozen? t = false) :
    Calls Tryz.prog 49 #[.iface 97 (.string e), .iface 99 (.pointer (some t))] w fun ev w' => ev = .returned (.bool true) ∧ w' = ((((w.alloc (.cells #[.pointer (some t)] 99)).alloc (.cells #[.pointer (some ⟨11, 99, none⟩), .pointer (some ⟨w.heap.size, 0, none⟩), .int .u64 150] 154)).alloc (.cells #[.pointer (some ⟨11, 99, none⟩), .pointer (some ⟨w.heap.size, 0, none⟩), .int .u64 150] 154)).alloc (.cells #[.string e] 97)).setCell t (.string e) := by
  have h6 := @run_callFunc_extern Tryz.prog 95 _ (fun args => ReflectliteValue.unpack (args.getD 0 (.tuple #[]))) Tryz.func95 (by kernel_rfl) (by kernel_rfl) (by kernel_rfl) (by kernel_rfl)
  have h7 := @run_callFunc_extern Tryz.prog 96 _ (ReflectliteValue.methodAny (ReflectliteValue.valueError "reflectlite.Value.Type" 0) (fun t _ _ _ => ReflectliteType.toType t)) Tryz.func96 (by kernel_rfl) (by kernel_rfl) (by kernel_rfl) (by kernel_rfl)
  have h8 := @run_callFunc_extern Tryz.prog 97 _ (ReflectliteValue.method (ReflectliteValue.valueError "reflectlite.Value.IsNil" 0) ReflectliteValue.isNil) Tryz.func97 (by kernel_rfl) (by kernel_rfl) (by kernel_rfl) (by kernel_rfl)
  have h27 := @run_callFunc_extern Tryz.prog 205 _ (ReflectliteType.abiMethod fun t => do pure (.int .u8 (← Rtype.kind t))) Tryz.func205 (by kernel_rfl) (by kernel_rfl) (by kernel_rfl) (by kernel_rfl)
  have h37 := @run_callFunc_extern Tryz.prog 216 _ (ReflectliteType.method ReflectliteType.elem) Tryz.func216 (by kernel_rfl) (by kernel_rfl) (by kernel_rfl) (by kernel_rfl)
  have h38 := @run_callFunc_extern Tryz.prog 217 _ (ReflectliteType.relation "Implements" ReflectliteType.implements_) Tryz.func217 (by kernel_rfl) (by kernel_rfl) (by kernel_rfl) (by kernel_rfl)
  have h10 := @run_callFunc_extern Tryz.prog 130 _ ReflectliteType.typeOf Tryz.func130 (by kernel_rfl) (by kernel_rfl) (by kernel_rfl) (by kernel_rfl)
  have h35 := @run_callFunc_extern Tryz.prog 214 _ (ReflectliteType.relation "AssignableTo" ReflectliteType.assignableTo) Tryz.func214 (by kernel_rfl) (by kernel_rfl) (by kernel_rfl) (by kernel_rfl)
  have h11 := @run_callFunc_extern Tryz.prog 131 _ (ReflectliteValue.method (ReflectliteValue.valueError "reflectlite.Value.Elem" 0) ReflectliteValue.elem) Tryz.func131 (by kernel_rfl) (by kernel_rfl) (by kernel_rfl) (by kernel_rfl)
  have h12 := @run_callFunc_extern Tryz.prog 132 _ ReflectliteValue.set Tryz.func132 (by kernel_rfl) (by kernel_rfl) (by kernel_rfl) (by kernel_rfl)
  have tO := Tw.typeOf25
  have mA := Tw.methodAssignableTo
  have a25 := Tw.assignable25
  have v25 := Tw.valueOf25
  have f6 := Tw.valueOf27
  have f7 := Tw.type27
  have mK := Tw.methodKind
  have mE := Tw.methodElem
  have mI := Tw.methodImplements
  have k27 := Tw.kind27
  have k25 := Tw.kind25
  have e27 := Tw.elem27
  have i25 := Tw.implements25
  have n8 := Tw.isNil27 ⟨w.heap.size, 0, none⟩ t ((w.alloc (.cells #[.pointer (some t)] 99)).alloc (.cells #[.pointer (some ⟨11, 99, none⟩), .pointer (some ⟨w.heap.size, 0, none⟩), .int .u64 150] 154)) (by simp)
  have hlt : 0 < w.heap.size := by
    rcases Nat.eq_zero_or_pos w.heap.size with h0 | h
    · simp [World.cell?, h0] at hg
    · exact h
  have hg2 : ((w.alloc (.cells #[.pointer (some t)] 99)).alloc (.cells #[.pointer (some ⟨11, 99, none⟩), .pointer (some ⟨w.heap.size, 0, none⟩), .int .u64 150] 154)).cell? ⟨0, 0, none⟩ = some (.iface 195 (.agg #[.pointer (some ⟨11, 94, none⟩)])) := by
    rw [World.cell?_alloc_lt _ _ ⟨0, 0, none⟩ (by simp), World.cell?_alloc_lt _ _ ⟨0, 0, none⟩ hlt]; exact hg
  have htl : t.block < w.heap.size := by
    rcases Nat.lt_or_ge t.block w.heap.size with h | h
    · exact h
    · simp [World.cell?, Array.getElem?_eq_none h] at ht0
  have el := Tw.elemV27 ⟨w.heap.size, 0, none⟩ t (((w.alloc (.cells #[.pointer (some t)] 99)).alloc (.cells #[.pointer (some ⟨11, 99, none⟩), .pointer (some ⟨w.heap.size, 0, none⟩), .int .u64 150] 154)).alloc (.cells #[.pointer (some ⟨11, 99, none⟩), .pointer (some ⟨w.heap.size, 0, none⟩), .int .u64 150] 154)) (by rw [World.cell?_alloc_lt _ _ ⟨w.heap.size, 0, none⟩ (by simp; omega)]; simp)
  have st := Tw.set25 t ⟨w.heap.size + 1 + 1 + 1, 0, none⟩ e old ((((w.alloc (.cells #[.pointer (some t)] 99)).alloc (.cells #[.pointer (some ⟨11, 99, none⟩), .pointer (some ⟨w.heap.size, 0, none⟩), .int .u64 150] 154)).alloc (.cells #[.pointer (some ⟨11, 99, none⟩), .pointer (some ⟨w.heap.size, 0, none⟩), .int .u64 150] 154)).alloc (.cells #[.string e] 97))
    (by rw [World.cell?_alloc_at _ _ _ _ (by simp)]; rfl)
    (by rw [World.cell?_alloc_lt _ _ t (by simp; omega), World.cell?_alloc_lt _ _ t (by simp; omega), World.cell?_alloc_lt _ _ t (by simp; omega), World.cell?_alloc_lt _ _ t htl]; exact ht0)
    (by rw [World.frozen?_alloc_old _ _ t (by simp; omega), World.frozen?_alloc_old _ _ t (by simp; omega), World.frozen?_alloc_old _ _ t (by simp; omega), World.frozen?_alloc_old _ _ t (Nat.ne_of_lt htl)]; exact hf0)
  go_enter Tryz.func49, Tryz.ntmps49
  go_wp2
  refine wp_loop_rounds 1 ?_
  rw [rounds_succ]
  go_wp2
  go_ret
  exact ⟨rfl, rfl⟩
end Go.Proofs.YtpjhpmpbdfeajaaGreatDoor
namespace Go.Proofs.YtpjhpmpbdfeajaaGreatDoor
open Go Go.Fi Go.RowKit
set_option maxRecDepth 20000

/-! ### errors.As, as the walks meet it: the target is a place of the caller's -/
structure AsC (P : Program) (f : FuncId) (W PW : TypeId) : Prop where
  ent : Enterable P f
  hit : ∀ (s : ByteArray) (b : Nat) (cs : Array Value) (e : TypeId) (w : World), LaidW.ok w → w.heap[b]? = some (.cells cs e (0, 0)) → 0 < cs.size →
    Calls P f #[.iface W (.string s), .iface PW (.pointer (some ⟨b, 0, none⟩))] w fun ev w' => ev = .returned (.bool true) ∧ ∃ w1, Below w.heap.size w w1 ∧ w' = wset w1 b (cs.setIfInBounds 0 (.string s)) e
theorem awp_as {fk : Fk} {P : Program} {f : FuncId} {W PW : TypeId} (hr : AsC P f W PW) {K : Exit → St → Prop} {rid d1 d2 d3 t5 t6 ty1 ty2 ty3 : Nat} {p1 p2 p3 : String} {a1 a2 a3 : Array Edge} {tys : Array TypeId} {env : Env} {h : Heap} {n nt id : Nat} {s : ByteArray} {ow fl : Bool} {c0 : AV}
    (hW : nIfc P PW = true) (hg5 : get env t5 = .w ow fl (.ifc W (.str s))) (hne : d1 ≠ t6) (hne2 : d2 ≠ d1) (hg6 : get env t6 = .ptr id 1 0) (hh : hget h id = some [c0]) (hd1 : d1 < nt) (hd2 : d2 < nt) (hd3 : d3 < nt)
    (hk : K .normal ⟨(d3, .w false false (.bool true)) :: (d2, .w false false .undef) :: (d1, .w ow fl (.ifc W (.str s))) :: env, hset h id [.w false false (.str s)], n, nt⟩) :
    AWPk fk P (.region rid #[⟨some d1, .move (.tmp t5), ty1, p1, a1, none⟩, ⟨some d2, .makeInterface PW (.tmp t6), ty2, p2, a2, none⟩, ⟨some d3, .call ⟨.value (.func f), #[.tmp d1, .tmp d2], tys⟩, ty3, p3, a3, none⟩] false) ⟨env, h, n, nt⟩ K := by
  intro B w0 a w m hs
  refine wpIn_region_list ?_
  simp only [wpListIn, Region.wanted, if_true]
  refine wpIn_of_wp (fun c e => by cases e) (estep_sound w0 (⟨some d1, .move (.tmp t5), ty1, p1, a1, none⟩ : Oper) (K := fun v h' n' => v = get env t5 ∧ h' = h ∧ n' = n) (by simp) hs hd1 _ _ ?_)
  rintro v h' n' a w m ⟨rfl, rfl, rfl⟩ hs
  rw [hg5] at hs
  have hx6 : RepA B (LB m h') m w (.ptr id 1 0) (a.eval (.tmp t6)) := by
    have := hs.env t6
    rw [show get (St.env ⟨put env (some d1) (.w ow fl (.ifc W (.str s))), h', n', nt⟩) t6 = .ptr id 1 0 from by simp [put, Fi.get, hne, hg6]] at this
    exact this
  obtain ⟨b, C, hv6, hd, hver, ha⟩ := hx6.ptr_inv
  -- the interface of the pointer
  refine wpIn_of_wp (fun c e => by cases e) ?_
  have hrun2 : (execOp a.eval ⟨some d2, .makeInterface PW (.tmp t6), ty2, p2, a2, none⟩).run P w = .ok (.value (.iface PW (.pointer (some ⟨b, 0, none⟩)))) w := by
    have hni : ∃ d, P.underlying PW = some d ∧ ∀ ms, d ≠ .interface ms := by
      unfold nIfc at hW
      split at hW
      · cases hW
      · rename_i d h1 h2; exact ⟨_, h2, fun ms e => h1 ms e⟩
      · cases hW
    obtain ⟨d, hu, hd'⟩ := hni
    have : (Instr.makeInterface PW (.pointer (some ⟨b, 0, none⟩))).run P w = .ok (.iface PW (.pointer (some ⟨b, 0, none⟩))) w := by
      unfold Instr.makeInterface
      simp only [Sem.run_bind, run_underlying hu, Result.andThen_ok]
      cases d <;> first | rfl | exact absurd rfl (hd' _)
    simp [execOp, hv6, this]
  unfold Oper.wp
  rw [hrun2, Oper.upon_value]
  have hs2 : Sim B w0 ⟨(d2, .w false false .undef) :: (d1, .w ow fl (.ifc W (.str s))) :: env, h', n', nt⟩ (a.put (some d2) (.iface PW (.pointer (some ⟨b, 0, none⟩)))) w m := by
    refine ⟨hs.base, hs.below, by rw [put_defers]; exact hs.defers, by rw [put_size]; exact hs.size, ?_, hs.heap, hs.dom, hs.ids, hs.fr⟩
    exact get_put _ a (some d2) _ _ (by show d2 < a.tmps.size; rw [hs.size]; exact hd2) (.w (.undef _) (fun h => by cases h)) hs.env
  have hv2 : (a.put (some d2) (.iface PW (.pointer (some ⟨b, 0, none⟩)))).eval (.tmp d2) = .iface PW (.pointer (some ⟨b, 0, none⟩)) := by
    have : d2 < a.tmps.size := by rw [hs.size]; exact hd2
    simp [Act.eval, Act.put, this, Array.getD_eq_getD_getElem?]
  have hv1 : (a.put (some d2) (.iface PW (.pointer (some ⟨b, 0, none⟩)))).eval (.tmp d1) = .iface W (.string s) := by
    have := hs2.env d1
    rw [show get (St.env ⟨(d2, .w false false .undef) :: (d1, .w ow fl (.ifc W (.str s))) :: env, h', n', nt⟩) d1 = .w ow fl (.ifc W (.str s)) from by simp [Fi.get, hne2]] at this
    have h2 : RepA B (LB m h') m w (.w ow fl (.ifc W (.str s))) ((a.put (some d2) (.iface PW (.pointer (some ⟨b, 0, none⟩)))).eval (.tmp d1)) := this
    generalize (a.put (some d2) (.iface PW (.pointer (some ⟨b, 0, none⟩)))).eval (.tmp d1) = v at h2
    cases h2 with
    | w hr _ => cases hr with | ifc h3 => cases h3; rfl
  generalize a.put (some d2) (.iface PW (.pointer (some ⟨b, 0, none⟩))) = a at *
  -- the call
  refine wpIn_of_wp (fun c e => by cases e) ?_
  obtain ⟨fn, hfn, hname, hbody⟩ := hr.ent
  have hrun : (execOp a.eval ⟨some d3, .call ⟨.value (.func f), #[.tmp d1, .tmp d2], tys⟩, ty3, p3, a3, none⟩).run P w = .ok (.enter f #[.iface W (.string s), .iface PW (.pointer (some ⟨b, 0, none⟩))]) w := by
    have hn' : ¬ fn.name = "runtime.NumGoroutine" := by simpa using hname
    have hb' : ¬ fn.body = none := by intro h; simp [h] at hbody
    have hev : a.eval (.func f) = .func (.func f) #[] #[] := rfl
    simp [execOp, resolve, hev, Deferred.ofValue, invoke, callFunc, hfn, hn', hb', hv1, hv2]
  unfold Oper.wp
  rw [hrun, Oper.upon_enter]
  have hin := hget_mem hh
  have hadd : m.addr id [c0].length = some (b, C) := ha
  obtain ⟨cs, e', hc, hC, hle, hbB, hcell⟩ := hs2.heap.read hin hd hadd
  have hbs : b < w.heap.size := LB_lt hs2.heap ⟨id, [c0], C, hin, hd, hadd⟩
  have hpos : 0 < cs.size := by simp at hle; omega
  refine (hr.hit s b cs e' w hs2.ok hc hpos).mono ?_
  rintro ev w' ⟨rfl, w1, hb1, rfl⟩
  have hbs1 : b < w1.heap.size := Nat.lt_of_lt_of_le hbs hb1.size
  obtain ⟨u1, u2, u3, u4⟩ := upd_entry (w' := wset w1 b (cs.setIfInBounds 0 (.string s)) e') hs2.heap hin hd (cells' := [.w false false (.str s)]) (Nat.le_refl _) (b' := b) (C' := C) (fun _ => hadd) (.inr ⟨C, hadd⟩)
    (fun k hk hne => (wset_other w1 b _ _ (fun e => hne C (by rw [e]; exact hadd))).trans (hb1.block k hk))
    ⟨cs.setIfInBounds 0 (.string s), e', wset_same w1 b _ _ hbs1, by simp [hC], by simpa using hle, hbB, fun j p v hp hv => by
      match j, hp with
      | 0, hp =>
        simp at hp; subst hp
        rw [Array.getElem?_setIfInBounds] at hv
        simp [hpos] at hv; subst hv
        exact .w (.str _) (fun h => by cases h)⟩
  have e3 : Below B.n w (wset w1 b (cs.setIfInBounds 0 (.string s)) e') := ⟨hb1.os, hb1.tape, hb1.output, by rw [wset_size]; exact hb1.size, fun k hk => (wset_other w1 b _ _ (by omega)).trans (hb1.block k (by have := hs2.room; omega))⟩
  have eh : hset h' id [.w false false (.str s)] = hmap h' id [.w false false (.str s)] := hset_map h' id _ (keys_ne hs2.heap)
  have hlen1 : ([AV.w false false (.str s)] : List AV).length = 1 := rfl
  refine ⟨_, m.up id 1 (some (b, C)), hk, hs2.base, hs2.below.trans e3, by rw [put_defers]; exact hs2.defers, by rw [put_size]; exact hs2.size, ?_, by rw [eh]; exact u1, fun i => ?_, fun i c hic => ?_, by rw [eh]; exact hs2.fr.mono u2 u3 u4 (Nat.le_refl _)⟩
  · rw [eh]
    exact get_put _ a (some d3) _ _ (by show d3 < a.tmps.size; rw [hs2.size]; exact hd3) (.w (.bool _) (fun h => by cases h)) (fun t => (hs2.env t).mono u2 u3 u4)
  · exact (hs2.dom i)
  · rw [hset_map h' id _ (keys_ne hs2.heap)] at hic
    obtain ⟨p, hp, e⟩ := List.mem_map.1 hic
    have := hs2.ids p.1 p.2 hp
    split at e
    · injection e with e1 _; rw [← e1]; exact this
    · have e1 : p.1 = i := by rw [e]
      rw [← e1]; exact this
theorem asC : AsC Tryz.prog 49 97 99 where
  ent := ⟨_, Tryz.func49, by kernel_rfl, by kernel_rfl⟩
  hit s b cs e w hok hb hpos := by
    have hg : w.cell? ⟨0, 0, none⟩ = some (.iface 195 (.agg #[typeHandle Tryz.prog 94])) := by
      simpa using World.var?_cell (show Tryz.prog.globalNamed "errors.errorType" = some 0 by kernel_rfl) (show LaidOk w from hok).etyp 0
    rw [show typeHandle Tryz.prog 94 = .pointer (some ⟨11, 94, none⟩) by kernel_rfl] at hg
    refine (as_hit s ⟨b, 0, none⟩ (cs.getD 0 undef) w hg (by rw [cell_of hb, Array.getD_eq_getD_getElem?, Array.getElem?_eq_getElem hpos]; rfl) (by simp [World.frozen?, hb])).mono ?_
    rintro ev w' ⟨rfl, rfl⟩
    refine ⟨rfl, _, ((((Below.refl w.heap.size w).alloc (Nat.le_refl _) _).alloc ?_ _).alloc ?_ _).alloc ?_ _, setCell_wset ?_ 0 _⟩
    · simp
    · simp; omega
    · simp; omega
    · have hlt : b < w.heap.size := by
        rcases Nat.lt_or_ge b w.heap.size with h | h
        · exact h
        · rw [Array.getElem?_eq_none h] at hb; cases hb
      have hB : Below w.heap.size w ((((w.alloc (.cells #[.pointer (some ⟨b, 0, none⟩)] 99)).alloc (.cells #[.pointer (some ⟨11, 99, none⟩), .pointer (some ⟨w.heap.size, 0, none⟩), .int .u64 150] 154)).alloc (.cells #[.pointer (some ⟨11, 99, none⟩), .pointer (some ⟨w.heap.size, 0, none⟩), .int .u64 150] 154)).alloc (.cells #[.string s] 97)) := by
        refine ((((Below.refl w.heap.size w).alloc (Nat.le_refl _) _).alloc ?_ _).alloc ?_ _).alloc ?_ _
        · simp
        · simp; omega
        · simp; omega
      exact (hB.block b hlt).trans hb
end Go.Proofs.YtpjhpmpbdfeajaaGreatDoor

