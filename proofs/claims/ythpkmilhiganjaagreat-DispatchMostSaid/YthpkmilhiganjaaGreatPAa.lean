/- Short names of library lemmas. -/
import Derived.KernelRfl
set_option linter.all false
def vl:=@Array.append_assoc
def m7:=@Array.append_empty
def DS:=@Array.ext'
def rr:=@Array.ext_getElem?
def dF:=@Array.getD_eq_getD_getElem?
def yG:=@Array.getElem?_append
def rD:=@Array.getElem?_append_left
def T0:=@Array.getElem?_append_right
def du:=@Array.getElem?_eq_getElem
def DI:=@Array.getElem?_eq_none
def T6:=@Array.getElem?_eq_none_iff
def cY:=@Array.getElem?_eq_some_iff
def vm:=@Array.getElem?_map
def qn:=@Array.getElem?_mapIdx
def fu:=@Array.getElem?_modify
def qg:=@Array.getElem?_push
def vq:=@Array.getElem?_push_lt
def yK:=@Array.getElem?_replicate
def iU:=@Array.getElem?_setIfInBounds
def tB:=@Array.getElem?_setIfInBounds_ne
def TX:=@Array.getElem?_setIfInBounds_self_of_lt
def iW:=@Array.getElem?_toList
def DC:=@Array.length_toList
def tA:=@Array.mapM_eq_mapM_toList
def yw:=@Array.mem_append
def JH:=@Array.mem_append_left
def JI:=@Array.mem_append_right
def DQ:=@Array.mem_of_getElem?
def rC:=@Array.mem_toList_iff
def oT:=@Array.toArray_toList
def JO:=@Array.toList_map
def DJ:=@BitVec.toNat_ofInt
def eY:=@Bool.and_eq_true
def js:=@Bool.and_false
def iZ:=@Bool.and_true
def yL:=@Bool.eq_iff_iff
def iJ:=@Bool.false_and
def dz:=@Bool.false_eq_true
def jJ:=@Bool.false_or
def qo:=@Bool.not_eq_true'
def jq:=@Bool.not_false
def ik:=@Bool.not_true
def qj:=@Bool.or_eq_true
def jI:=@Bool.or_false
def ju:=@Bool.or_true
def fQ:=@Bool.true_and
def iX:=@Bool.true_or
def ry:=@Classical.byContradiction
def DR:=@Decidable.byContradiction
def JL:=@Int.fdiv_eq_ediv_of_nonneg
def JU:=@Int.natCast_nonneg
def jr:=@Int.toNat_natCast
def tH:=@List.Pairwise.imp_of_mem
def gp:=@List.all_eq_true
def yP:=@List.any_cons
def J1:=@List.any_eq_false
def DH:=@List.append_cancel_right
def JR:=@List.append_nil
def DD:=@List.cons.injEq
def qm:=@List.cons_append
def TZ:=@List.drop_eq_getElem_cons
def JX:=@List.drop_eq_nil_of_le
def jb:=@List.drop_length
def JS:=@List.drop_of_length_le
def ja:=@List.eq_nil_of_length_eq_zero
def vr:=@List.ext_getElem?
def oV:=@List.flatMap_cons
def Dy:=@List.foldl_cons
def dZ:=@List.getD_eq_getElem?_getD
def rA:=@List.getElem?_append_left
def tI:=@List.getElem?_append_right
def yA:=@List.getElem?_cons_succ
def Dz:=@List.getElem?_cons_zero
def yB:=@List.getElem?_drop
def dP:=@List.getElem?_eq_getElem
def eX:=@List.getElem?_eq_some_iff
def im:=@List.getElem?_map
def yD:=@List.getElem?_range
def JN:=@List.getElem?_set
def j5:=@List.getElem?_take
def yC:=@List.getElem?_toArray
def DU:=@List.getElem_cons_drop
def lZ:=@List.getElem_of_mem
def tG:=@List.getElem_range
def nX:=@List.length_append
def il:=@List.length_cons
def yE:=@List.length_drop
def DT:=@List.length_eq_one_iff
def iI:=@List.length_map
def J0:=@List.length_mergeSort
def lB:=@List.length_nil
def rz:=@List.length_range
def lq:=@List.length_take
def yN:=@List.length_take_of_le
def yx:=@List.mapM_cons
def DY:=@List.map_append
def oU:=@List.map_cons
def yH:=@List.map_nil
def iV:=@List.mem_append
def vu:=@List.mem_append_left
def DV:=@List.mem_append_right
def dM:=@List.mem_cons
def eH:=@List.mem_cons_of_mem
def gF:=@List.mem_cons_self
def rF:=@List.mem_filter
def vt:=@List.mem_flatMap
def jH:=@List.mem_map
def JK:=@List.mem_of_getElem?
def tJ:=@List.mem_range
def oS:=@List.mem_singleton
def DF:=@List.nil_append
def m9:=@List.not_mem_nil
def DN:=@List.pairwise_cons
def vn:=@List.pairwise_iff_getElem
def JV:=@List.range_succ
def DK:=@List.replicate_succ
def TW:=@List.reverse_singleton
def na:=@List.size_toArray
def JZ:=@List.take_append
def yO:=@List.take_append_drop
def T5:=@List.take_of_length_le
def JY:=@List.take_succ_cons
def T4:=@List.take_succ_eq_append_getElem
def qh:=@Nat.add_assoc
def iY:=@Nat.add_mul
def m8:=@Nat.add_zero
def TY:=@Nat.and_two_pow_sub_one_eq_mod
def ll:=@Nat.eq_zero_or_pos
def gG:=@Nat.le_of_ble_eq_true
def bS:=@Nat.le_refl
def dJ:=@Nat.le_trans
def yJ:=@Nat.le_zero
def lY:=@Nat.lt_of_lt_of_le
def fo:=@Nat.lt_or_ge
def T3:=@Nat.lt_succ_iff_lt_or_eq
def DX:=@Nat.lt_succ_self
def DG:=@Nat.lt_trichotomy
def yz:=@Nat.mod_lt
def JQ:=@Nat.mul_le_mul
def tF:=@Nat.mul_le_mul_right
def JW:=@Nat.not_lt_zero
def DW:=@Nat.sub_self
def DO:=@Nat.sub_zero
def eI:=@Nat.zero_add
def cG:=@Nat.zero_le
def JP:=@Nat.zero_mul
def gO:=@Ne.symm
def lj:=@Option.bind_some
def oR:=@Option.getD_some
def JJ:=@Option.isNone_some
def tD:=@Option.map_eq_some_iff
def JM:=@Option.map_none
def eh:=@Option.map_some
def fL:=@Option.some.inj
def db:=@Option.some.injEq
def dq:=@Prod.mk.inj
def dC:=@Prod.mk.injEq
def cT:=@if_false
def bP:=@if_neg
def b8:=@if_pos
def cz:=@if_true
theorem au{p:Prop}(x:p:=by cases h):p:=x
theorem aR{p:Prop}(x:p:=by constructor<;>simp[IntKind.min,IntKind.max,IntKind.bits,IntKind.signed]<;>omega):p:=x
theorem af{p:Prop}(x:p:=by decide):p:=x
theorem ai{p:Prop}(x:p:=by decide +kernel):p:=x
theorem ak{p:Prop}(x:p:=by grind):p:=x
theorem aF{p:Prop}(x:p:=by have:=hp.below;rw[hp.base] at this;exact this):p:=x
theorem aB{p:Prop}(x:p:=by intro c h;cases h):p:=x
theorem aN{p:Prop}(x:p:=by intro jx e he;match jx,he with|0,_=>exact .inr (by simp[deafBehind])|jx+1,he=>simp at he):p:=x
theorem aj{p:Prop}(x:p:=by kernel_rfl):p:=x
theorem aQ{p:Prop}(x:p:=by obtain⟨m',h⟩:=h0 B w0 a w m hs;grind):p:=x
theorem ab{p:Prop}(x:p:=by omega):p:=x
theorem aH{p:Prop}(x:p:=by rw[<-es];exact bj s (by rw[ho];simp[Op.operands,Call.operands])):p:=x
theorem aZ{p:Prop}(x:p:=by rw[ag op h8] at hx;cases hx):p:=x
theorem aP{p:Prop}(x:p:=by rw[h.size];exact ht):p:=x
theorem aD{p:Prop}(x:p:=by rw[ho];simp[Op.operands,Call.operands]):p:=x
theorem aG{p:Prop}(x:p:=by rw[ho];simp[Op.operands]):p:=x
theorem aI{p:Prop}(x:p:=by rw[jK hc.hl];omega):p:=x
theorem aO{p:Prop}(x:p:=by rw[jY];omega):p:=x
theorem a7{p:Prop}(x:p:=by rw[upd_same];simp):p:=x
theorem aK{p:Prop}(x:p:=by rwa [e 36 ab] at x):p:=x
theorem aJ{p:Prop}(x:p:=by rwa [e 38 ab] at x):p:=x
theorem ae{p:Prop}(x:p:=by simp):p:=x
theorem aS{p:Prop}(x:p:=by simp only[Mm.cut];rw[bH ab];exact ht):p:=x
theorem aC{p:Prop}(x:p:=by simp only[phi];omega):p:=x
theorem aL{p:Prop}(x:p:=by simp only[stepG.exec,ht,hv];rfl):p:=x
theorem az{p:Prop}(x:p:=by simp only[stepG.exec,ht]):p:=x
theorem ar{p:Prop}(x:p:=by simp;omega):p:=x
theorem a8{p:Prop}(x:p:=by simp[Mm.new]):p:=x
theorem aA{p:Prop}(x:p:=by simp[Op.operands]):p:=x
theorem aX{p:Prop}(x:p:=by simp[show LZ 0=[] from k6,e0]):p:=x
theorem al{p:Prop}(x:p:=by simp_all):p:=x
theorem aU{p:Prop}(x:p:=by simpa using b2):p:=x
theorem av{p:Prop}(x:p:=by simpa using h):p:=x
theorem aV{p:Prop}(x:p:=by simpa using h2.symm):p:=x
theorem aM{p:Prop}(x:p:=by simpa using hi):p:=x
theorem aT{p:Prop}(x:p:=by simpa using hp):p:=x
theorem aY{p:Prop}(x:p:=by simpa[AV.lt,Mm.cut] using hl):p:=x
theorem aE{p:Prop}(x:p:=by trivial):p:=x
