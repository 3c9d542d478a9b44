/- Short names of library lemmas. -/
import Derived.KernelRfl
set_option linter.all false
def uQ:=@Array.append_assoc
def mU:=@Array.append_empty
def Di:=@Array.ext'
def I8:=@Array.ext_getElem?
def dL:=@Array.getD_eq_getD_getElem?
def yd:=@Array.getElem?_append
def sV:=@Array.getElem?_append_left
def SW:=@Array.getElem?_append_right
def dM:=@Array.getElem?_eq_getElem
def Db:=@Array.getElem?_eq_none
def S1:=@Array.getElem?_eq_none_iff
def df:=@Array.getElem?_eq_some_iff
def yh:=@Array.getElem?_map
def sU:=@Array.getElem?_mapIdx
def fG:=@Array.getElem?_modify
def pO:=@Array.getElem?_push
def uX:=@Array.getElem?_push_lt
def yg:=@Array.getElem?_replicate
def jj:=@Array.getElem?_setIfInBounds
def uW:=@Array.getElem?_setIfInBounds_ne
def SV:=@Array.getElem?_setIfInBounds_self_of_lt
def jA:=@Array.getElem?_toList
def Da:=@Array.length_toList
def sN:=@Array.mapM_eq_mapM_toList
def xX:=@Array.mem_append
def IQ:=@Array.mem_append_left
def IS:=@Array.mem_append_right
def Dg:=@Array.mem_of_getElem?
def qV:=@Array.mem_toList_iff
def oJ:=@Array.toArray_toList
def IY:=@Array.toList_map
def Dc:=@BitVec.toNat_ofInt
def eT:=@Bool.and_eq_true
def jD:=@Bool.and_false
def jm:=@Bool.and_true
def uU:=@Bool.eq_iff_iff
def iv:=@Bool.false_and
def dC:=@Bool.false_eq_true
def jF:=@Bool.false_or
def Dj:=@Bool.not_eq_true'
def iw:=@Bool.not_false
def gG:=@Bool.not_true
def sT:=@Bool.or_eq_true
def jE:=@Bool.or_false
def jo:=@Bool.or_true
def fV:=@Bool.true_and
def iU:=@Bool.true_or
def SY:=@Classical.byContradiction
def pT:=@Classical.not_not
def Dh:=@Decidable.byContradiction
def IU:=@Int.fdiv_eq_ediv_of_nonneg
def fH:=@Int.toNat_natCast
def sL:=@List.Pairwise.imp_of_mem
def gz:=@List.all_eq_true
def yo:=@List.any_cons
def u6:=@List.any_eq_false
def uS:=@List.any_eq_true
def pR:=@List.append_nil
def Df:=@List.cons.injEq
def pQ:=@List.cons_append
def SU:=@List.drop_eq_getElem_cons
def Jc:=@List.drop_eq_nil_of_le
def jG:=@List.drop_length
def I5:=@List.drop_of_length_le
def iW:=@List.eq_nil_of_length_eq_zero
def Jg:=@List.ext_getElem
def uY:=@List.ext_getElem?
def Jh:=@List.filter_congr
def u7:=@List.flatMap_append
def jq:=@List.flatMap_cons
def De:=@List.foldl_cons
def eu:=@List.getD_eq_getElem?_getD
def qU:=@List.getElem?_append_left
def sP:=@List.getElem?_append_right
def xZ:=@List.getElem?_cons_succ
def CZ:=@List.getElem?_cons_zero
def x9:=@List.getElem?_drop
def dY:=@List.getElem?_eq_getElem
def fu:=@List.getElem?_eq_some_iff
def jk:=@List.getElem?_map
def yb:=@List.getElem?_range
def IX:=@List.getElem?_set
def k8:=@List.getElem?_take
def ya:=@List.getElem?_toArray
def Dl:=@List.getElem_cons_drop
def mV:=@List.getElem_of_mem
def sK:=@List.getElem_range
def nK:=@List.length_append
def gw:=@List.length_cons
def uR:=@List.length_drop
def Dk:=@List.length_eq_one_iff
def iV:=@List.length_map
def lg:=@List.length_nil
def qT:=@List.length_range
def oM:=@List.length_set
def jY:=@List.length_take
def u5:=@List.length_take_of_le
def yc:=@List.mapM_cons
def yk:=@List.map_append
def I0:=@List.map_congr_left
def oK:=@List.map_cons
def sX:=@List.map_map
def ye:=@List.map_nil
def Jf:=@List.map_take
def jC:=@List.mem_append
def ew:=@List.mem_cons
def fw:=@List.mem_cons_of_mem
def jB:=@List.mem_cons_self
def qX:=@List.mem_filter
def uZ:=@List.mem_flatMap
def I7:=@List.mem_iff_getElem
def gA:=@List.mem_map
def IT:=@List.mem_of_getElem?
def lW:=@List.mem_range
def qW:=@List.mem_singleton
def Dm:=@List.mem_take_iff_getElem
def I6:=@List.nil_append
def mX:=@List.not_mem_nil
def I4:=@List.pairwise_cons
def sQ:=@List.pairwise_iff_getElem
def uV:=@List.range_succ
def Dd:=@List.replicate_succ
def SR:=@List.reverse_singleton
def mW:=@List.size_toArray
def Je:=@List.take_append
def yi:=@List.take_append_drop
def yn:=@List.take_length
def SZ:=@List.take_of_length_le
def Jd:=@List.take_succ_cons
def ym:=@List.take_succ_eq_append_getElem
def pP:=@Nat.add_assoc
def ga:=@Nat.add_mul
def oI:=@Nat.add_zero
def SS:=@Nat.and_two_pow_sub_one_eq_mod
def k9:=@Nat.eq_zero_or_pos
def gH:=@Nat.le_of_ble_eq_true
def bV:=@Nat.le_refl
def dK:=@Nat.le_trans
def yf:=@Nat.le_zero
def lT:=@Nat.lt_of_lt_of_le
def fq:=@Nat.lt_or_ge
def SX:=@Nat.lt_succ_iff_lt_or_eq
def yj:=@Nat.lt_succ_self
def Jb:=@Nat.lt_trichotomy
def xY:=@Nat.mod_lt
def sJ:=@Nat.mul_le_mul_right
def Ja:=@Nat.not_lt_zero
def eo:=@Nat.zero_add
def cG:=@Nat.zero_le
def IZ:=@Nat.zero_mul
def dZ:=@Ne.symm
def jz:=@Option.bind_some
def oL:=@Option.getD_some
def I9:=@Option.isNone_some
def sS:=@Option.map_eq_some_iff
def IV:=@Option.map_none
def eI:=@Option.map_some
def fO:=@Option.some.inj
def dg:=@Option.some.injEq
def dq:=@Prod.mk.inj
def dH:=@Prod.mk.injEq
def cP:=@if_false
def bH:=@if_neg
def bX:=@if_pos
def cD:=@if_true
theorem au{p:Prop}(x:p:=by cases h):p:=x
theorem aR{p:Prop}(x:p:=by constructor<;>simp[IntKind.min,IntKind.max,IntKind.bits,IntKind.signed]<;>omega):p:=x
theorem af{p:Prop}(x:p:=by decide):p:=x
theorem ai{p:Prop}(x:p:=by decide +kernel):p:=x
theorem ak{p:Prop}(x:p:=by grind):p:=x
theorem aF{p:Prop}(x:p:=by have:=hp.below;rw[hp.base] at this;exact this):p:=x
theorem aB{p:Prop}(x:p:=by intro c h;cases h):p:=x
theorem aN{p:Prop}(x:p:=by intro jx e he;match jx,he with|0,_=>exact .inr (by simp[deafBehind])|jx+1,he=>simp at he):p:=x
theorem aj{p:Prop}(x:p:=by kernel_rfl):p:=x
theorem aQ{p:Prop}(x:p:=by obtain⟨m',h⟩:=h0 B w0 a w m hs;grind):p:=x
theorem ab{p:Prop}(x:p:=by omega):p:=x
theorem aH{p:Prop}(x:p:=by rw[<-es];exact bj s (by rw[ho];simp[Op.operands,Call.operands])):p:=x
theorem aZ{p:Prop}(x:p:=by rw[ag op h8] at hx;cases hx):p:=x
theorem aP{p:Prop}(x:p:=by rw[h.size];exact ht):p:=x
theorem aD{p:Prop}(x:p:=by rw[ho];simp[Op.operands,Call.operands]):p:=x
theorem aG{p:Prop}(x:p:=by rw[ho];simp[Op.operands]):p:=x
theorem aI{p:Prop}(x:p:=by rw[jK hc.hl];omega):p:=x
theorem aO{p:Prop}(x:p:=by rw[jY];omega):p:=x
theorem a7{p:Prop}(x:p:=by rw[upd_same];simp):p:=x
theorem aK{p:Prop}(x:p:=by rwa [e 36 ab] at x):p:=x
theorem aJ{p:Prop}(x:p:=by rwa [e 38 ab] at x):p:=x
theorem ae{p:Prop}(x:p:=by simp):p:=x
theorem aS{p:Prop}(x:p:=by simp only[Mm.cut];rw[bH ab];exact ht):p:=x
theorem aC{p:Prop}(x:p:=by simp only[phi];omega):p:=x
theorem aL{p:Prop}(x:p:=by simp only[stepG.exec,ht,hv];rfl):p:=x
theorem az{p:Prop}(x:p:=by simp only[stepG.exec,ht]):p:=x
theorem ar{p:Prop}(x:p:=by simp;omega):p:=x
theorem a8{p:Prop}(x:p:=by simp[Mm.new]):p:=x
theorem aA{p:Prop}(x:p:=by simp[Op.operands]):p:=x
theorem aX{p:Prop}(x:p:=by simp[show LZ 0=[] from k6,e0]):p:=x
theorem al{p:Prop}(x:p:=by simp_all):p:=x
theorem aU{p:Prop}(x:p:=by simpa using b2):p:=x
theorem av{p:Prop}(x:p:=by simpa using h):p:=x
theorem aV{p:Prop}(x:p:=by simpa using h2.symm):p:=x
theorem aM{p:Prop}(x:p:=by simpa using hi):p:=x
theorem aT{p:Prop}(x:p:=by simpa using hp):p:=x
theorem aY{p:Prop}(x:p:=by simpa[AV.lt,Mm.cut] using hl):p:=x
theorem aE{p:Prop}(x:p:=by trivial):p:=x
