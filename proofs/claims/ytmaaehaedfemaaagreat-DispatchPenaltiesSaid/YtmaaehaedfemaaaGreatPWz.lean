/- Lemmas. -/
import Derived.Test.YtmaaehaedfemaaaGreatProg
import Derived.Test.YtmaaehaedfemaaaGreatPMd
import Derived.KernelRfl
set_option linter.unusedSimpArgs false
set_option linter.unusedVariables false
set_option linter.unusedSectionVars false
set_option maxHeartbeats 32000000
set_option maxRecDepth 100000
namespace Go.Proofs.Tz
open Go
def keep(i:Nat):Bool:=i==3 || i==4 || i==5 || i==6 || i==7 || i==8 || i==9 || i==10 || i==11 || i==12 || i==13 || i==14 || i==15 || i==16 || i==17 || i==18 || i==19 || i==21 || i==22 || i==23 || i==24 || i==25 || i==26 || i==27 || i==28 || i==29 || i==30 || i==31 || i==32 || i==33 || i==34 || i==35 || i==36 || i==37 || i==41 || i==43 || i==44 || i==45 || i==46 || i==47 || i==48 || i==49 || i==50 || i==51 || i==52 || i==53 || i==54 || i==55 || i==56 || i==57 || i==58 || i==59 || i==60 || i==61 || i==75 || i==81 || i==82 || i==83 || i==84 || i==85 || i==86 || i==87 || i==88 || i==89 || i==90 || i==91 || i==92 || i==93 || i==94 || i==95 || i==96 || i==97 || i==98 || i==99 || i==100 || i==106 || i==107 || i==108 || i==109 || i==110 || i==111 || i==112 || i==113 || i==114
def ea(f:Func):Func:={ f with body:=some (.refuse "known by its contract alone"),name := "" }
noncomputable def prog:Program:={ Tryz.prog with funcs:=Tryz.prog.funcs.mapIdx fun i f=>if keep i then f else ea f }
@[simp] theorem call3(args:Array Value)(w:World):Sem.run prog (callFunc 3 args) w=.ok (.enter 3 args) w:=by kernel_rfl
@[simp] theorem func3:prog.funcs[3]?=some Tryz.f3:=by kernel_rfl
@[simp] theorem func4:prog.funcs[4]?=some Tryz.f4:=by kernel_rfl
@[simp] theorem func5:prog.funcs[5]?=some Tryz.f5:=by kernel_rfl
@[simp] theorem func6:prog.funcs[6]?=some Tryz.f6:=by kernel_rfl
@[simp] theorem func7:prog.funcs[7]?=some Tryz.f7:=by kernel_rfl
@[simp] theorem func8:prog.funcs[8]?=some Tryz.f8:=by kernel_rfl
@[simp] theorem func9:prog.funcs[9]?=some Tryz.f9:=by kernel_rfl
@[simp] theorem func10:prog.funcs[10]?=some Tryz.f10:=by kernel_rfl
@[simp] theorem func11:prog.funcs[11]?=some Tryz.f11:=by kernel_rfl
@[simp] theorem func12:prog.funcs[12]?=some Tryz.f12:=by kernel_rfl
@[simp] theorem func13:prog.funcs[13]?=some Tryz.f13:=by kernel_rfl
@[simp] theorem func14:prog.funcs[14]?=some Tryz.f14:=by kernel_rfl
@[simp] theorem func15:prog.funcs[15]?=some Tryz.f15:=by kernel_rfl
@[simp] theorem func16:prog.funcs[16]?=some Tryz.f16:=by kernel_rfl
@[simp] theorem func17:prog.funcs[17]?=some Tryz.f17:=by kernel_rfl
@[simp] theorem func18:prog.funcs[18]?=some Tryz.f18:=by kernel_rfl
@[simp] theorem func19:prog.funcs[19]?=some Tryz.f19:=by kernel_rfl
@[simp] theorem func21:prog.funcs[21]?=some Tryz.f21:=by kernel_rfl
@[simp] theorem func22:prog.funcs[22]?=some Tryz.f22:=by kernel_rfl
@[simp] theorem func23:prog.funcs[23]?=some Tryz.f23:=by kernel_rfl
@[simp] theorem func24:prog.funcs[24]?=some Tryz.f24:=by kernel_rfl
@[simp] theorem func25:prog.funcs[25]?=some Tryz.f25:=by kernel_rfl
@[simp] theorem func26:prog.funcs[26]?=some Tryz.f26:=by kernel_rfl
@[simp] theorem func27:prog.funcs[27]?=some Tryz.f27:=by kernel_rfl
@[simp] theorem func28:prog.funcs[28]?=some Tryz.f28:=by kernel_rfl
@[simp] theorem func29:prog.funcs[29]?=some Tryz.f29:=by kernel_rfl
@[simp] theorem func30:prog.funcs[30]?=some Tryz.f30:=by kernel_rfl
@[simp] theorem func31:prog.funcs[31]?=some Tryz.f31:=by kernel_rfl
@[simp] theorem func32:prog.funcs[32]?=some Tryz.f32:=by kernel_rfl
@[simp] theorem func33:prog.funcs[33]?=some Tryz.f33:=by kernel_rfl
@[simp] theorem func34:prog.funcs[34]?=some Tryz.f34:=by kernel_rfl
@[simp] theorem func35:prog.funcs[35]?=some Tryz.f35:=by kernel_rfl
@[simp] theorem func36:prog.funcs[36]?=some Tryz.f36:=by kernel_rfl
@[simp] theorem func37:prog.funcs[37]?=some Tryz.f37:=by kernel_rfl
@[simp] theorem call41(args:Array Value)(w:World):Sem.run prog (callFunc 41 args) w=.ok (.enter 41 args) w:=by kernel_rfl
@[simp] theorem MK(args:Array Value)(w:World)(es:Array Event):Sem.events prog (callFunc 41 args) w es=es:=by kernel_rfl
@[simp] theorem func41:prog.funcs[41]?=some Tryz.f41:=by kernel_rfl
@[simp] theorem func43:prog.funcs[43]?=some Tryz.f43:=by kernel_rfl
@[simp] theorem func44:prog.funcs[44]?=some Tryz.f44:=by kernel_rfl
@[simp] theorem func45:prog.funcs[45]?=some Tryz.f45:=by kernel_rfl
@[simp] theorem func46:prog.funcs[46]?=some Tryz.f46:=by kernel_rfl
@[simp] theorem func47:prog.funcs[47]?=some Tryz.f47:=by kernel_rfl
@[simp] theorem func48:prog.funcs[48]?=some Tryz.f48:=by kernel_rfl
@[simp] theorem func49:prog.funcs[49]?=some Tryz.f49:=by kernel_rfl
@[simp] theorem func50:prog.funcs[50]?=some Tryz.f50:=by kernel_rfl
@[simp] theorem func51:prog.funcs[51]?=some Tryz.f51:=by kernel_rfl
@[simp] theorem func52:prog.funcs[52]?=some Tryz.f52:=by kernel_rfl
@[simp] theorem func53:prog.funcs[53]?=some Tryz.f53:=by kernel_rfl
@[simp] theorem func54:prog.funcs[54]?=some Tryz.f54:=by kernel_rfl
@[simp] theorem func55:prog.funcs[55]?=some Tryz.f55:=by kernel_rfl
@[simp] theorem func56:prog.funcs[56]?=some Tryz.f56:=by kernel_rfl
@[simp] theorem func57:prog.funcs[57]?=some Tryz.f57:=by kernel_rfl
@[simp] theorem func58:prog.funcs[58]?=some Tryz.f58:=by kernel_rfl
@[simp] theorem func59:prog.funcs[59]?=some Tryz.f59:=by kernel_rfl
@[simp] theorem func60:prog.funcs[60]?=some Tryz.f60:=by kernel_rfl
@[simp] theorem func61:prog.funcs[61]?=some Tryz.f61:=by kernel_rfl
@[simp] theorem call75(args:Array Value)(w:World):Sem.run prog (callFunc 75 args) w=.ok (.enter 75 args) w:=by kernel_rfl
@[simp] theorem ML(args:Array Value)(w:World)(es:Array Event):Sem.events prog (callFunc 75 args) w es=es:=by kernel_rfl
@[simp] theorem func75:prog.funcs[75]?=some Tryz.f75:=by kernel_rfl
@[simp] theorem func82:prog.funcs[82]?=some Tryz.f82:=by kernel_rfl
@[simp] theorem func83:prog.funcs[83]?=some Tryz.f83:=by kernel_rfl
@[simp] theorem func89:prog.funcs[89]?=some Tryz.f89:=by kernel_rfl
@[simp] theorem func93:prog.funcs[93]?=some Tryz.f93:=by kernel_rfl
@[simp] theorem func94:prog.funcs[94]?=some Tryz.f94:=by kernel_rfl
@[simp] theorem func95:prog.funcs[95]?=some Tryz.f95:=by kernel_rfl
@[simp] theorem func96:prog.funcs[96]?=some Tryz.f96:=by kernel_rfl
@[simp] theorem func97:prog.funcs[97]?=some Tryz.f97:=by kernel_rfl
@[simp] theorem func98:prog.funcs[98]?=some Tryz.f98:=by kernel_rfl
@[simp] theorem func99:prog.funcs[99]?=some Tryz.f99:=by kernel_rfl
@[simp] theorem func100:prog.funcs[100]?=some Tryz.f100:=by kernel_rfl
@[simp] theorem func111:prog.funcs[111]?=some Tryz.f111:=by kernel_rfl
@[simp] theorem func112:prog.funcs[112]?=some Tryz.f112:=by kernel_rfl
@[simp] theorem func113:prog.funcs[113]?=some Tryz.f113:=by kernel_rfl
end Go.Proofs.Tz
