/- Short names of library lemmas. -/
import Derived.KernelRfl
set_option linter.all false
def uS:=@Array.append_assoc
def mN:=@Array.append_empty
def Da:=@Array.ext'
def Jy:=@Array.ext_getElem?
def dC:=@Array.getD_eq_getD_getElem?
def xY:=@Array.getElem?_append
def sY:=@Array.getElem?_append_left
def TP:=@Array.getElem?_append_right
def dE:=@Array.getElem?_eq_getElem
def CS:=@Array.getElem?_eq_none
def TU:=@Array.getElem?_eq_none_iff
def cT:=@Array.getElem?_eq_some_iff
def yb:=@Array.getElem?_map
def sX:=@Array.getElem?_mapIdx
def fB:=@Array.getElem?_modify
def pL:=@Array.getElem?_push
def uV:=@Array.getElem?_push_lt
def ya:=@Array.getElem?_replicate
def iX:=@Array.getElem?_setIfInBounds
def uU:=@Array.getElem?_setIfInBounds_ne
def TO:=@Array.getElem?_setIfInBounds_self_of_lt
def jo:=@Array.getElem?_toList
def CR:=@Array.length_toList
def sL:=@Array.mapM_eq_mapM_toList
def xT:=@Array.mem_append
def Jj:=@Array.mem_append_left
def Jk:=@Array.mem_append_right
def CY:=@Array.mem_of_getElem?
def qU:=@Array.mem_toList_iff
def oI:=@Array.toArray_toList
def Jq:=@Array.toList_map
def CU:=@BitVec.toNat_ofInt
def fe:=@Bool.and_eq_true
def jQ:=@Bool.and_false
def ia:=@Bool.and_true
def jb:=@Bool.false_and
def dB:=@Bool.false_eq_true
def jw:=@Bool.false_or
def Dc:=@Bool.not_eq_true'
def ju:=@Bool.not_false
def ig:=@Bool.not_true
def sT:=@Bool.or_eq_true
def jR:=@Bool.or_false
def jv:=@Bool.or_true
def fY:=@Bool.true_and
def iY:=@Bool.true_or
def yf:=@Classical.not_not
def CZ:=@Decidable.byContradiction
def Jm:=@Int.fdiv_eq_ediv_of_nonneg
def Jr:=@Int.mul_le_mul
def sJ:=@List.Pairwise.imp_of_mem
def De:=@List.all_cons
def gm:=@List.all_eq_true
def Di:=@List.any_cons
def ye:=@List.any_eq_false
def Js:=@List.append_nil
def JA:=@List.cons.injEq
def lP:=@List.cons_append
def TM:=@List.drop_eq_getElem_cons
def JB:=@List.drop_eq_nil_of_le
def kI:=@List.drop_length
def Jv:=@List.drop_of_length_le
def iJ:=@List.eq_nil_of_length_eq_zero
def Db:=@List.ext_getElem?
def JG:=@List.flatMap_append
def pQ:=@List.flatMap_cons
def CX:=@List.foldl_cons
def dT:=@List.getD_eq_getElem?_getD
def sN:=@List.getElem?_append_left
def sP:=@List.getElem?_append_right
def sG:=@List.getElem?_cons_succ
def CQ:=@List.getElem?_cons_zero
def xV:=@List.getElem?_drop
def dO:=@List.getElem?_eq_getElem
def fg:=@List.getElem?_eq_some_iff
def jm:=@List.getElem?_map
def CV:=@List.getElem?_range
def Jp:=@List.getElem?_set
def lQ:=@List.getElem?_take
def xW:=@List.getElem?_toArray
def Dg:=@List.getElem_cons_drop
def kD:=@List.getElem_of_mem
def sI:=@List.getElem_range
def uW:=@List.length_append
def fS:=@List.length_cons
def xX:=@List.length_drop
def Dd:=@List.length_eq_one_iff
def jq:=@List.length_map
def kE:=@List.length_nil
def sH:=@List.length_range
def jP:=@List.length_take
def Df:=@List.length_take_of_le
def sK:=@List.mapM_cons
def JF:=@List.map_append
def qV:=@List.map_congr_left
def jr:=@List.map_cons
def qW:=@List.map_map
def xZ:=@List.map_nil
def js:=@List.mem_append
def dU:=@List.mem_cons
def eY:=@List.mem_cons_of_mem
def iZ:=@List.mem_cons_self
def tc:=@List.mem_filter
def yc:=@List.mem_flatMap
def ja:=@List.mem_map
def Jl:=@List.mem_of_getElem?
def sU:=@List.mem_range
def sV:=@List.mem_singleton
def TR:=@List.mem_take_iff_getElem
def Jw:=@List.nil_append
def mQ:=@List.not_mem_nil
def Ju:=@List.pairwise_cons
def sQ:=@List.pairwise_iff_getElem
def Jn:=@List.replicate_succ
def TK:=@List.reverse_singleton
def Jx:=@List.set_cons_succ
def TT:=@List.set_eq_of_length_le
def mP:=@List.size_toArray
def JD:=@List.take_append
def yd:=@List.take_append_drop
def qX:=@List.take_of_length_le
def JC:=@List.take_succ_cons
def pN:=@Nat.add_assoc
def eU:=@Nat.add_mul
def Jt:=@Nat.add_sub_cancel
def oH:=@Nat.add_zero
def TL:=@Nat.and_two_pow_sub_one_eq_mod
def lR:=@Nat.eq_zero_or_pos
def ij:=@Nat.le_of_ble_eq_true
def bU:=@Nat.le_refl
def dN:=@Nat.le_trans
def x9:=@Nat.le_zero
def Dj:=@Nat.lt_irrefl
def lO:=@Nat.lt_of_lt_of_le
def eX:=@Nat.lt_or_ge
def yg:=@Nat.lt_succ_iff_lt_or_eq
def Dh:=@Nat.lt_succ_self
def JE:=@Nat.min_eq_left
def xU:=@Nat.mod_lt
def qT:=@Nat.mul_le_mul_right
def oJ:=@Nat.not_lt_zero
def dJ:=@Nat.zero_add
def cG:=@Nat.zero_le
def pO:=@Nat.zero_mul
def gH:=@Ne.symm
def jk:=@Option.bind_some
def pP:=@Option.getD_some
def Jz:=@Option.isNone_some
def sS:=@Option.map_eq_some_iff
def Jo:=@Option.map_none
def dZ:=@Option.map_some
def fK:=@Option.some.inj
def cV:=@Option.some.injEq
def dK:=@Prod.mk.inj
def dz:=@Prod.mk.injEq
def cP:=@if_false
def bN:=@if_neg
def cu:=@if_pos
def cz:=@if_true
theorem au{p:Prop}(x:p:=by cases h):p:=x
theorem aR{p:Prop}(x:p:=by constructor<;>simp[IntKind.min,IntKind.max,IntKind.bits,IntKind.signed]<;>omega):p:=x
theorem af{p:Prop}(x:p:=by decide):p:=x
theorem ai{p:Prop}(x:p:=by decide +kernel):p:=x
theorem ak{p:Prop}(x:p:=by grind):p:=x
theorem aF{p:Prop}(x:p:=by have:=hp.below;rw[hp.base] at this;exact this):p:=x
theorem aB{p:Prop}(x:p:=by intro c h;cases h):p:=x
theorem aN{p:Prop}(x:p:=by intro jx e he;match jx,he with|0,_=>exact .inr (by simp[deafBehind])|jx+1,he=>simp at he):p:=x
theorem aj{p:Prop}(x:p:=by kernel_rfl):p:=x
theorem aQ{p:Prop}(x:p:=by obtain⟨m',h⟩:=h0 B w0 a w m hs;grind):p:=x
theorem ab{p:Prop}(x:p:=by omega):p:=x
theorem aH{p:Prop}(x:p:=by rw[<-es];exact bj s (by rw[ho];simp[Op.operands,Call.operands])):p:=x
theorem aZ{p:Prop}(x:p:=by rw[ag op h8] at hx;cases hx):p:=x
theorem aP{p:Prop}(x:p:=by rw[h.size];exact ht):p:=x
theorem aD{p:Prop}(x:p:=by rw[ho];simp[Op.operands,Call.operands]):p:=x
theorem aG{p:Prop}(x:p:=by rw[ho];simp[Op.operands]):p:=x
theorem aI{p:Prop}(x:p:=by rw[jK hc.hl];omega):p:=x
theorem aO{p:Prop}(x:p:=by rw[jY];omega):p:=x
theorem a7{p:Prop}(x:p:=by rw[upd_same];simp):p:=x
theorem aK{p:Prop}(x:p:=by rwa [e 36 ab] at x):p:=x
theorem aJ{p:Prop}(x:p:=by rwa [e 38 ab] at x):p:=x
theorem ae{p:Prop}(x:p:=by simp):p:=x
theorem aS{p:Prop}(x:p:=by simp only[Mm.cut];rw[bH ab];exact ht):p:=x
theorem aC{p:Prop}(x:p:=by simp only[phi];omega):p:=x
theorem aL{p:Prop}(x:p:=by simp only[stepG.exec,ht,hv];rfl):p:=x
theorem az{p:Prop}(x:p:=by simp only[stepG.exec,ht]):p:=x
theorem ar{p:Prop}(x:p:=by simp;omega):p:=x
theorem a8{p:Prop}(x:p:=by simp[Mm.new]):p:=x
theorem aA{p:Prop}(x:p:=by simp[Op.operands]):p:=x
theorem aX{p:Prop}(x:p:=by simp[show LZ 0=[] from k6,e0]):p:=x
theorem al{p:Prop}(x:p:=by simp_all):p:=x
theorem aU{p:Prop}(x:p:=by simpa using b2):p:=x
theorem av{p:Prop}(x:p:=by simpa using h):p:=x
theorem aV{p:Prop}(x:p:=by simpa using h2.symm):p:=x
theorem aM{p:Prop}(x:p:=by simpa using hi):p:=x
theorem aT{p:Prop}(x:p:=by simpa using hp):p:=x
theorem aY{p:Prop}(x:p:=by simpa[AV.lt,Mm.cut] using hl):p:=x
theorem aE{p:Prop}(x:p:=by trivial):p:=x
