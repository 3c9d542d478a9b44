/- Lemmas. -/
import Derived.Test.YthpkmilhiganjaaGreatPWf
import Derived.Test.YthpkmilhiganjaaGreatPWz
import Derived.Test.YthpkmilhiganjaaGreatPWt
set_option linter.unusedSimpArgs false
set_option linter.unusedVariables false
set_option linter.unusedSectionVars false
set_option maxHeartbeats 32000000
set_option maxRecDepth 100000
namespace Go.Proofs.Tz
open Go Go.Fi Go.Fc Go.Conc
@[reducible] def xfZ:Xf:={ xf:=fun f=>f=69,bot:=fun _=>False,ds:=fun _ _=>True,rng:=true }
def kZ(f:Nat):Prop:=keep f=false∧f≠69∧∃fn,Tryz.prog.funcs[f]?=some fn
theorem gO(f:Nat):prog.funcs[f]?=(Tryz.prog.funcs[f]?).map fun fn=>if keep f then fn else eH fn:=by
 unfold prog;simp only[Array.getElem?_mapIdx]
def Good(k:Nat):Prop:=∃fn c,prog.funcs[k]?=some fn∧Tryz.prog.funcs[k]?=some fn∧(fn.name == "runtime.NumGoroutine")=false∧fn.body=some c∧@codeOk xfZ prog c=true∧fn.norace=false∧prog.inits.idxOf? k=none
theorem g3:Good 3:=⟨Tryz.f3,Tryz.f3.body.getD .skip,func3,Tryz.func3,by kernel_rfl,by kernel_rfl,by kernel_rfl,by kernel_rfl,by kernel_rfl⟩
theorem g4:Good 4:=⟨Tryz.f4,Tryz.f4.body.getD .skip,func4,Tryz.func4,by kernel_rfl,by kernel_rfl,by kernel_rfl,by kernel_rfl,by kernel_rfl⟩
theorem g5:Good 5:=⟨Tryz.f5,Tryz.f5.body.getD .skip,func5,Tryz.func5,by kernel_rfl,by kernel_rfl,by kernel_rfl,by kernel_rfl,by kernel_rfl⟩
theorem g6:Good 6:=⟨Tryz.f6,Tryz.f6.body.getD .skip,func6,Tryz.func6,by kernel_rfl,by kernel_rfl,by kernel_rfl,by kernel_rfl,by kernel_rfl⟩
theorem g7:Good 7:=⟨Tryz.f7,Tryz.f7.body.getD .skip,func7,Tryz.func7,by kernel_rfl,by kernel_rfl,by kernel_rfl,by kernel_rfl,by kernel_rfl⟩
theorem g8:Good 8:=⟨Tryz.f8,Tryz.f8.body.getD .skip,func8,Tryz.func8,by kernel_rfl,by kernel_rfl,by kernel_rfl,by kernel_rfl,by kernel_rfl⟩
theorem g9:Good 9:=⟨Tryz.f9,Tryz.f9.body.getD .skip,func9,Tryz.func9,by kernel_rfl,by kernel_rfl,by kernel_rfl,by kernel_rfl,by kernel_rfl⟩
theorem g10:Good 10:=⟨Tryz.f10,Tryz.f10.body.getD .skip,func10,Tryz.func10,by kernel_rfl,by kernel_rfl,by kernel_rfl,by kernel_rfl,by kernel_rfl⟩
theorem g11:Good 11:=⟨Tryz.f11,Tryz.f11.body.getD .skip,func11,Tryz.func11,by kernel_rfl,by kernel_rfl,by kernel_rfl,by kernel_rfl,by kernel_rfl⟩
theorem g12:Good 12:=⟨Tryz.f12,Tryz.f12.body.getD .skip,func12,Tryz.func12,by kernel_rfl,by kernel_rfl,by kernel_rfl,by kernel_rfl,by kernel_rfl⟩
theorem g13:Good 13:=⟨Tryz.f13,Tryz.f13.body.getD .skip,func13,Tryz.func13,by kernel_rfl,by kernel_rfl,by kernel_rfl,by kernel_rfl,by kernel_rfl⟩
theorem g14:Good 14:=⟨Tryz.f14,Tryz.f14.body.getD .skip,func14,Tryz.func14,by kernel_rfl,by kernel_rfl,by kernel_rfl,by kernel_rfl,by kernel_rfl⟩
theorem g15:Good 15:=⟨Tryz.f15,Tryz.f15.body.getD .skip,func15,Tryz.func15,by kernel_rfl,by kernel_rfl,by kernel_rfl,by kernel_rfl,by kernel_rfl⟩
theorem g16:Good 16:=⟨Tryz.f16,Tryz.f16.body.getD .skip,func16,Tryz.func16,by kernel_rfl,by kernel_rfl,by kernel_rfl,by kernel_rfl,by kernel_rfl⟩
theorem g17:Good 17:=⟨Tryz.f17,Tryz.f17.body.getD .skip,func17,Tryz.func17,by kernel_rfl,by kernel_rfl,by kernel_rfl,by kernel_rfl,by kernel_rfl⟩
theorem g18:Good 18:=⟨Tryz.f18,Tryz.f18.body.getD .skip,func18,Tryz.func18,by kernel_rfl,by kernel_rfl,by kernel_rfl,by kernel_rfl,by kernel_rfl⟩
theorem g19:Good 19:=⟨Tryz.f19,Tryz.f19.body.getD .skip,func19,Tryz.func19,by kernel_rfl,by kernel_rfl,by kernel_rfl,by kernel_rfl,by kernel_rfl⟩
theorem g20:Good 20:=⟨Tryz.f20,Tryz.f20.body.getD .skip,func20,Tryz.func20,by kernel_rfl,by kernel_rfl,by kernel_rfl,by kernel_rfl,by kernel_rfl⟩
theorem g21:Good 21:=⟨Tryz.f21,Tryz.f21.body.getD .skip,func21,Tryz.func21,by kernel_rfl,by kernel_rfl,by kernel_rfl,by kernel_rfl,by kernel_rfl⟩
theorem g22:Good 22:=⟨Tryz.f22,Tryz.f22.body.getD .skip,func22,Tryz.func22,by kernel_rfl,by kernel_rfl,by kernel_rfl,by kernel_rfl,by kernel_rfl⟩
theorem g23:Good 23:=⟨Tryz.f23,Tryz.f23.body.getD .skip,func23,Tryz.func23,by kernel_rfl,by kernel_rfl,by kernel_rfl,by kernel_rfl,by kernel_rfl⟩
theorem g24:Good 24:=⟨Tryz.f24,Tryz.f24.body.getD .skip,func24,Tryz.func24,by kernel_rfl,by kernel_rfl,by kernel_rfl,by kernel_rfl,by kernel_rfl⟩
theorem g25:Good 25:=⟨Tryz.f25,Tryz.f25.body.getD .skip,func25,Tryz.func25,by kernel_rfl,by kernel_rfl,by kernel_rfl,by kernel_rfl,by kernel_rfl⟩
theorem g26:Good 26:=⟨Tryz.f26,Tryz.f26.body.getD .skip,func26,Tryz.func26,by kernel_rfl,by kernel_rfl,by kernel_rfl,by kernel_rfl,by kernel_rfl⟩
theorem g27:Good 27:=⟨Tryz.f27,Tryz.f27.body.getD .skip,func27,Tryz.func27,by kernel_rfl,by kernel_rfl,by kernel_rfl,by kernel_rfl,by kernel_rfl⟩
theorem g28:Good 28:=⟨Tryz.f28,Tryz.f28.body.getD .skip,func28,Tryz.func28,by kernel_rfl,by kernel_rfl,by kernel_rfl,by kernel_rfl,by kernel_rfl⟩
theorem g29:Good 29:=⟨Tryz.f29,Tryz.f29.body.getD .skip,func29,Tryz.func29,by kernel_rfl,by kernel_rfl,by kernel_rfl,by kernel_rfl,by kernel_rfl⟩
theorem g30:Good 30:=⟨Tryz.f30,Tryz.f30.body.getD .skip,func30,Tryz.func30,by kernel_rfl,by kernel_rfl,by kernel_rfl,by kernel_rfl,by kernel_rfl⟩
theorem g31:Good 31:=⟨Tryz.f31,Tryz.f31.body.getD .skip,func31,Tryz.func31,by kernel_rfl,by kernel_rfl,by kernel_rfl,by kernel_rfl,by kernel_rfl⟩
theorem g32:Good 32:=⟨Tryz.f32,Tryz.f32.body.getD .skip,func32,Tryz.func32,by kernel_rfl,by kernel_rfl,by kernel_rfl,by kernel_rfl,by kernel_rfl⟩
theorem g33:Good 33:=⟨Tryz.f33,Tryz.f33.body.getD .skip,func33,Tryz.func33,by kernel_rfl,by kernel_rfl,by kernel_rfl,by kernel_rfl,by kernel_rfl⟩
theorem g34:Good 34:=⟨Tryz.f34,Tryz.f34.body.getD .skip,func34,Tryz.func34,by kernel_rfl,by kernel_rfl,by kernel_rfl,by kernel_rfl,by kernel_rfl⟩
theorem g35:Good 35:=⟨Tryz.f35,Tryz.f35.body.getD .skip,func35,Tryz.func35,by kernel_rfl,by kernel_rfl,by kernel_rfl,by kernel_rfl,by kernel_rfl⟩
theorem g36:Good 36:=⟨Tryz.f36,Tryz.f36.body.getD .skip,func36,Tryz.func36,by kernel_rfl,by kernel_rfl,by kernel_rfl,by kernel_rfl,by kernel_rfl⟩
theorem g37:Good 37:=⟨Tryz.f37,Tryz.f37.body.getD .skip,func37,Tryz.func37,by kernel_rfl,by kernel_rfl,by kernel_rfl,by kernel_rfl,by kernel_rfl⟩
theorem g38:Good 38:=⟨Tryz.f38,Tryz.f38.body.getD .skip,func38,Tryz.func38,by kernel_rfl,by kernel_rfl,by kernel_rfl,by kernel_rfl,by kernel_rfl⟩
theorem g39:Good 39:=⟨Tryz.f39,Tryz.f39.body.getD .skip,func39,Tryz.func39,by kernel_rfl,by kernel_rfl,by kernel_rfl,by kernel_rfl,by kernel_rfl⟩
theorem g40:Good 40:=⟨Tryz.f40,Tryz.f40.body.getD .skip,func40,Tryz.func40,by kernel_rfl,by kernel_rfl,by kernel_rfl,by kernel_rfl,by kernel_rfl⟩
theorem g41:Good 41:=⟨Tryz.f41,Tryz.f41.body.getD .skip,func41,Tryz.func41,by kernel_rfl,by kernel_rfl,by kernel_rfl,by kernel_rfl,by kernel_rfl⟩
theorem g42:Good 42:=⟨Tryz.f42,Tryz.f42.body.getD .skip,func42,Tryz.func42,by kernel_rfl,by kernel_rfl,by kernel_rfl,by kernel_rfl,by kernel_rfl⟩
theorem g43:Good 43:=⟨Tryz.f43,Tryz.f43.body.getD .skip,func43,Tryz.func43,by kernel_rfl,by kernel_rfl,by kernel_rfl,by kernel_rfl,by kernel_rfl⟩
theorem g44:Good 44:=⟨Tryz.f44,Tryz.f44.body.getD .skip,func44,Tryz.func44,by kernel_rfl,by kernel_rfl,by kernel_rfl,by kernel_rfl,by kernel_rfl⟩
theorem g45:Good 45:=⟨Tryz.f45,Tryz.f45.body.getD .skip,func45,Tryz.func45,by kernel_rfl,by kernel_rfl,by kernel_rfl,by kernel_rfl,by kernel_rfl⟩
theorem g46:Good 46:=⟨Tryz.f46,Tryz.f46.body.getD .skip,func46,Tryz.func46,by kernel_rfl,by kernel_rfl,by kernel_rfl,by kernel_rfl,by kernel_rfl⟩
theorem g47:Good 47:=⟨Tryz.f47,Tryz.f47.body.getD .skip,func47,Tryz.func47,by kernel_rfl,by kernel_rfl,by kernel_rfl,by kernel_rfl,by kernel_rfl⟩
theorem g48:Good 48:=⟨Tryz.f48,Tryz.f48.body.getD .skip,func48,Tryz.func48,by kernel_rfl,by kernel_rfl,by kernel_rfl,by kernel_rfl,by kernel_rfl⟩
theorem g49:Good 49:=⟨Tryz.f49,Tryz.f49.body.getD .skip,func49,Tryz.func49,by kernel_rfl,by kernel_rfl,by kernel_rfl,by kernel_rfl,by kernel_rfl⟩
theorem g50:Good 50:=⟨Tryz.f50,Tryz.f50.body.getD .skip,func50,Tryz.func50,by kernel_rfl,by kernel_rfl,by kernel_rfl,by kernel_rfl,by kernel_rfl⟩
theorem g51:Good 51:=⟨Tryz.f51,Tryz.f51.body.getD .skip,func51,Tryz.func51,by kernel_rfl,by kernel_rfl,by kernel_rfl,by kernel_rfl,by kernel_rfl⟩
theorem g52:Good 52:=⟨Tryz.f52,Tryz.f52.body.getD .skip,func52,Tryz.func52,by kernel_rfl,by kernel_rfl,by kernel_rfl,by kernel_rfl,by kernel_rfl⟩
theorem g53:Good 53:=⟨Tryz.f53,Tryz.f53.body.getD .skip,func53,Tryz.func53,by kernel_rfl,by kernel_rfl,by kernel_rfl,by kernel_rfl,by kernel_rfl⟩
theorem g54:Good 54:=⟨Tryz.f54,Tryz.f54.body.getD .skip,func54,Tryz.func54,by kernel_rfl,by kernel_rfl,by kernel_rfl,by kernel_rfl,by kernel_rfl⟩
theorem g55:Good 55:=⟨Tryz.f55,Tryz.f55.body.getD .skip,func55,Tryz.func55,by kernel_rfl,by kernel_rfl,by kernel_rfl,by kernel_rfl,by kernel_rfl⟩
theorem g56:Good 56:=⟨Tryz.f56,Tryz.f56.body.getD .skip,func56,Tryz.func56,by kernel_rfl,by kernel_rfl,by kernel_rfl,by kernel_rfl,by kernel_rfl⟩
theorem g57:Good 57:=⟨Tryz.f57,Tryz.f57.body.getD .skip,func57,Tryz.func57,by kernel_rfl,by kernel_rfl,by kernel_rfl,by kernel_rfl,by kernel_rfl⟩
theorem g58:Good 58:=⟨Tryz.f58,Tryz.f58.body.getD .skip,func58,Tryz.func58,by kernel_rfl,by kernel_rfl,by kernel_rfl,by kernel_rfl,by kernel_rfl⟩
theorem g59:Good 59:=⟨Tryz.f59,Tryz.f59.body.getD .skip,func59,Tryz.func59,by kernel_rfl,by kernel_rfl,by kernel_rfl,by kernel_rfl,by kernel_rfl⟩
theorem g60:Good 60:=⟨Tryz.f60,Tryz.f60.body.getD .skip,func60,Tryz.func60,by kernel_rfl,by kernel_rfl,by kernel_rfl,by kernel_rfl,by kernel_rfl⟩
theorem g61:Good 61:=⟨Tryz.f61,Tryz.f61.body.getD .skip,func61,Tryz.func61,by kernel_rfl,by kernel_rfl,by kernel_rfl,by kernel_rfl,by kernel_rfl⟩
theorem g62:Good 62:=⟨Tryz.f62,Tryz.f62.body.getD .skip,func62,Tryz.func62,by kernel_rfl,by kernel_rfl,by kernel_rfl,by kernel_rfl,by kernel_rfl⟩
theorem g63:Good 63:=⟨Tryz.f63,Tryz.f63.body.getD .skip,func63,Tryz.func63,by kernel_rfl,by kernel_rfl,by kernel_rfl,by kernel_rfl,by kernel_rfl⟩
theorem g64:Good 64:=⟨Tryz.f64,Tryz.f64.body.getD .skip,func64,Tryz.func64,by kernel_rfl,by kernel_rfl,by kernel_rfl,by kernel_rfl,by kernel_rfl⟩
theorem g65:Good 65:=⟨Tryz.f65,Tryz.f65.body.getD .skip,func65,Tryz.func65,by kernel_rfl,by kernel_rfl,by kernel_rfl,by kernel_rfl,by kernel_rfl⟩
theorem g66:Good 66:=⟨Tryz.f66,Tryz.f66.body.getD .skip,func66,Tryz.func66,by kernel_rfl,by kernel_rfl,by kernel_rfl,by kernel_rfl,by kernel_rfl⟩
theorem g67:Good 67:=⟨Tryz.f67,Tryz.f67.body.getD .skip,func67,Tryz.func67,by kernel_rfl,by kernel_rfl,by kernel_rfl,by kernel_rfl,by kernel_rfl⟩
theorem g68:Good 68:=⟨Tryz.f68,Tryz.f68.body.getD .skip,func68,Tryz.func68,by kernel_rfl,by kernel_rfl,by kernel_rfl,by kernel_rfl,by kernel_rfl⟩
theorem g70:Good 70:=⟨Tryz.f70,Tryz.f70.body.getD .skip,func70,Tryz.func70,by kernel_rfl,by kernel_rfl,by kernel_rfl,by kernel_rfl,by kernel_rfl⟩
theorem g71:Good 71:=⟨Tryz.f71,Tryz.f71.body.getD .skip,func71,Tryz.func71,by kernel_rfl,by kernel_rfl,by kernel_rfl,by kernel_rfl,by kernel_rfl⟩
theorem g72:Good 72:=⟨Tryz.f72,Tryz.f72.body.getD .skip,func72,Tryz.func72,by kernel_rfl,by kernel_rfl,by kernel_rfl,by kernel_rfl,by kernel_rfl⟩
theorem g73:Good 73:=⟨Tryz.f73,Tryz.f73.body.getD .skip,func73,Tryz.func73,by kernel_rfl,by kernel_rfl,by kernel_rfl,by kernel_rfl,by kernel_rfl⟩
theorem g74:Good 74:=⟨Tryz.f74,Tryz.f74.body.getD .skip,func74,Tryz.func74,by kernel_rfl,by kernel_rfl,by kernel_rfl,by kernel_rfl,by kernel_rfl⟩
theorem g75:Good 75:=⟨Tryz.f75,Tryz.f75.body.getD .skip,func75,Tryz.func75,by kernel_rfl,by kernel_rfl,by kernel_rfl,by kernel_rfl,by kernel_rfl⟩
theorem g76:Good 76:=⟨Tryz.f76,Tryz.f76.body.getD .skip,func76,Tryz.func76,by kernel_rfl,by kernel_rfl,by kernel_rfl,by kernel_rfl,by kernel_rfl⟩
theorem g77:Good 77:=⟨Tryz.f77,Tryz.f77.body.getD .skip,func77,Tryz.func77,by kernel_rfl,by kernel_rfl,by kernel_rfl,by kernel_rfl,by kernel_rfl⟩
theorem g78:Good 78:=⟨Tryz.f78,Tryz.f78.body.getD .skip,func78,Tryz.func78,by kernel_rfl,by kernel_rfl,by kernel_rfl,by kernel_rfl,by kernel_rfl⟩
theorem g79:Good 79:=⟨Tryz.f79,Tryz.f79.body.getD .skip,func79,Tryz.func79,by kernel_rfl,by kernel_rfl,by kernel_rfl,by kernel_rfl,by kernel_rfl⟩
theorem g80:Good 80:=⟨Tryz.f80,Tryz.f80.body.getD .skip,func80,Tryz.func80,by kernel_rfl,by kernel_rfl,by kernel_rfl,by kernel_rfl,by kernel_rfl⟩
theorem g81:Good 81:=⟨Tryz.f81,Tryz.f81.body.getD .skip,func81,Tryz.func81,by kernel_rfl,by kernel_rfl,by kernel_rfl,by kernel_rfl,by kernel_rfl⟩
theorem g82:Good 82:=⟨Tryz.f82,Tryz.f82.body.getD .skip,func82,Tryz.func82,by kernel_rfl,by kernel_rfl,by kernel_rfl,by kernel_rfl,by kernel_rfl⟩
theorem g83:Good 83:=⟨Tryz.f83,Tryz.f83.body.getD .skip,func83,Tryz.func83,by kernel_rfl,by kernel_rfl,by kernel_rfl,by kernel_rfl,by kernel_rfl⟩
theorem g84:Good 84:=⟨Tryz.f84,Tryz.f84.body.getD .skip,func84,Tryz.func84,by kernel_rfl,by kernel_rfl,by kernel_rfl,by kernel_rfl,by kernel_rfl⟩
theorem g85:Good 85:=⟨Tryz.f85,Tryz.f85.body.getD .skip,func85,Tryz.func85,by kernel_rfl,by kernel_rfl,by kernel_rfl,by kernel_rfl,by kernel_rfl⟩
theorem g86:Good 86:=⟨Tryz.f86,Tryz.f86.body.getD .skip,func86,Tryz.func86,by kernel_rfl,by kernel_rfl,by kernel_rfl,by kernel_rfl,by kernel_rfl⟩
theorem g87:Good 87:=⟨Tryz.f87,Tryz.f87.body.getD .skip,func87,Tryz.func87,by kernel_rfl,by kernel_rfl,by kernel_rfl,by kernel_rfl,by kernel_rfl⟩
theorem g88:Good 88:=⟨Tryz.f88,Tryz.f88.body.getD .skip,func88,Tryz.func88,by kernel_rfl,by kernel_rfl,by kernel_rfl,by kernel_rfl,by kernel_rfl⟩
theorem g89:Good 89:=⟨Tryz.f89,Tryz.f89.body.getD .skip,func89,Tryz.func89,by kernel_rfl,by kernel_rfl,by kernel_rfl,by kernel_rfl,by kernel_rfl⟩
theorem g90:Good 90:=⟨Tryz.f90,Tryz.f90.body.getD .skip,func90,Tryz.func90,by kernel_rfl,by kernel_rfl,by kernel_rfl,by kernel_rfl,by kernel_rfl⟩
theorem g91:Good 91:=⟨Tryz.f91,Tryz.f91.body.getD .skip,func91,Tryz.func91,by kernel_rfl,by kernel_rfl,by kernel_rfl,by kernel_rfl,by kernel_rfl⟩
theorem g92:Good 92:=⟨Tryz.f92,Tryz.f92.body.getD .skip,func92,Tryz.func92,by kernel_rfl,by kernel_rfl,by kernel_rfl,by kernel_rfl,by kernel_rfl⟩
theorem g93:Good 93:=⟨Tryz.f93,Tryz.f93.body.getD .skip,func93,Tryz.func93,by kernel_rfl,by kernel_rfl,by kernel_rfl,by kernel_rfl,by kernel_rfl⟩
theorem g94:Good 94:=⟨Tryz.f94,Tryz.f94.body.getD .skip,func94,Tryz.func94,by kernel_rfl,by kernel_rfl,by kernel_rfl,by kernel_rfl,by kernel_rfl⟩
theorem g95:Good 95:=⟨Tryz.f95,Tryz.f95.body.getD .skip,func95,Tryz.func95,by kernel_rfl,by kernel_rfl,by kernel_rfl,by kernel_rfl,by kernel_rfl⟩
theorem g96:Good 96:=⟨Tryz.f96,Tryz.f96.body.getD .skip,func96,Tryz.func96,by kernel_rfl,by kernel_rfl,by kernel_rfl,by kernel_rfl,by kernel_rfl⟩
theorem g97:Good 97:=⟨Tryz.f97,Tryz.f97.body.getD .skip,func97,Tryz.func97,by kernel_rfl,by kernel_rfl,by kernel_rfl,by kernel_rfl,by kernel_rfl⟩
theorem g98:Good 98:=⟨Tryz.f98,Tryz.f98.body.getD .skip,func98,Tryz.func98,by kernel_rfl,by kernel_rfl,by kernel_rfl,by kernel_rfl,by kernel_rfl⟩
theorem g99:Good 99:=⟨Tryz.f99,Tryz.f99.body.getD .skip,func99,Tryz.func99,by kernel_rfl,by kernel_rfl,by kernel_rfl,by kernel_rfl,by kernel_rfl⟩
theorem Oc:Good 100:=⟨Tryz.f100,Tryz.f100.body.getD .skip,func100,Tryz.func100,by kernel_rfl,by kernel_rfl,by kernel_rfl,by kernel_rfl,by kernel_rfl⟩
theorem Od:Good 101:=⟨Tryz.f101,Tryz.f101.body.getD .skip,func101,Tryz.func101,by kernel_rfl,by kernel_rfl,by kernel_rfl,by kernel_rfl,by kernel_rfl⟩
theorem Oe:Good 102:=⟨Tryz.f102,Tryz.f102.body.getD .skip,func102,Tryz.func102,by kernel_rfl,by kernel_rfl,by kernel_rfl,by kernel_rfl,by kernel_rfl⟩
theorem Of:Good 103:=⟨Tryz.f103,Tryz.f103.body.getD .skip,func103,Tryz.func103,by kernel_rfl,by kernel_rfl,by kernel_rfl,by kernel_rfl,by kernel_rfl⟩
theorem Og:Good 104:=⟨Tryz.f104,Tryz.f104.body.getD .skip,func104,Tryz.func104,by kernel_rfl,by kernel_rfl,by kernel_rfl,by kernel_rfl,by kernel_rfl⟩
theorem Oh:Good 105:=⟨Tryz.f105,Tryz.f105.body.getD .skip,func105,Tryz.func105,by kernel_rfl,by kernel_rfl,by kernel_rfl,by kernel_rfl,by kernel_rfl⟩
theorem Oi:Good 106:=⟨Tryz.f106,Tryz.f106.body.getD .skip,func106,Tryz.func106,by kernel_rfl,by kernel_rfl,by kernel_rfl,by kernel_rfl,by kernel_rfl⟩
theorem Oj:Good 107:=⟨Tryz.f107,Tryz.f107.body.getD .skip,func107,Tryz.func107,by kernel_rfl,by kernel_rfl,by kernel_rfl,by kernel_rfl,by kernel_rfl⟩
theorem Ok:Good 108:=⟨Tryz.f108,Tryz.f108.body.getD .skip,func108,Tryz.func108,by kernel_rfl,by kernel_rfl,by kernel_rfl,by kernel_rfl,by kernel_rfl⟩
theorem Ol:Good 109:=⟨Tryz.f109,Tryz.f109.body.getD .skip,func109,Tryz.func109,by kernel_rfl,by kernel_rfl,by kernel_rfl,by kernel_rfl,by kernel_rfl⟩
theorem Om:Good 110:=⟨Tryz.f110,Tryz.f110.body.getD .skip,func110,Tryz.func110,by kernel_rfl,by kernel_rfl,by kernel_rfl,by kernel_rfl,by kernel_rfl⟩
theorem On:Good 111:=⟨Tryz.f111,Tryz.f111.body.getD .skip,func111,Tryz.func111,by kernel_rfl,by kernel_rfl,by kernel_rfl,by kernel_rfl,by kernel_rfl⟩
theorem Oo:Good 116:=⟨Tryz.f116,Tryz.f116.body.getD .skip,func116,Tryz.func116,by kernel_rfl,by kernel_rfl,by kernel_rfl,by kernel_rfl,by kernel_rfl⟩
theorem Oq:Good 117:=⟨Tryz.f117,Tryz.f117.body.getD .skip,func117,Tryz.func117,by kernel_rfl,by kernel_rfl,by kernel_rfl,by kernel_rfl,by kernel_rfl⟩
theorem Ot:Good 118:=⟨Tryz.f118,Tryz.f118.body.getD .skip,func118,Tryz.func118,by kernel_rfl,by kernel_rfl,by kernel_rfl,by kernel_rfl,by kernel_rfl⟩
theorem Ou:Good 119:=⟨Tryz.f119,Tryz.f119.body.getD .skip,func119,Tryz.func119,by kernel_rfl,by kernel_rfl,by kernel_rfl,by kernel_rfl,by kernel_rfl⟩
theorem Ov:Good 120:=⟨Tryz.f120,Tryz.f120.body.getD .skip,func120,Tryz.func120,by kernel_rfl,by kernel_rfl,by kernel_rfl,by kernel_rfl,by kernel_rfl⟩
theorem Ow:Good 121:=⟨Tryz.f121,Tryz.f121.body.getD .skip,func121,Tryz.func121,by kernel_rfl,by kernel_rfl,by kernel_rfl,by kernel_rfl,by kernel_rfl⟩
theorem Ox:Good 122:=⟨Tryz.f122,Tryz.f122.body.getD .skip,func122,Tryz.func122,by kernel_rfl,by kernel_rfl,by kernel_rfl,by kernel_rfl,by kernel_rfl⟩
theorem Oy:Good 123:=⟨Tryz.f123,Tryz.f123.body.getD .skip,func123,Tryz.func123,by kernel_rfl,by kernel_rfl,by kernel_rfl,by kernel_rfl,by kernel_rfl⟩
theorem Oz:Good 124:=⟨Tryz.f124,Tryz.f124.body.getD .skip,func124,Tryz.func124,by kernel_rfl,by kernel_rfl,by kernel_rfl,by kernel_rfl,by kernel_rfl⟩
theorem OA:Good 125:=⟨Tryz.f125,Tryz.f125.body.getD .skip,func125,Tryz.func125,by kernel_rfl,by kernel_rfl,by kernel_rfl,by kernel_rfl,by kernel_rfl⟩
theorem OB:Good 126:=⟨Tryz.f126,Tryz.f126.body.getD .skip,func126,Tryz.func126,by kernel_rfl,by kernel_rfl,by kernel_rfl,by kernel_rfl,by kernel_rfl⟩
theorem OC:Good 127:=⟨Tryz.f127,Tryz.f127.body.getD .skip,func127,Tryz.func127,by kernel_rfl,by kernel_rfl,by kernel_rfl,by kernel_rfl,by kernel_rfl⟩
theorem OE:Good 128:=⟨Tryz.f128,Tryz.f128.body.getD .skip,func128,Tryz.func128,by kernel_rfl,by kernel_rfl,by kernel_rfl,by kernel_rfl,by kernel_rfl⟩
theorem OF:Good 129:=⟨Tryz.f129,Tryz.f129.body.getD .skip,func129,Tryz.func129,by kernel_rfl,by kernel_rfl,by kernel_rfl,by kernel_rfl,by kernel_rfl⟩
theorem OG:Good 130:=⟨Tryz.f130,Tryz.f130.body.getD .skip,func130,Tryz.func130,by kernel_rfl,by kernel_rfl,by kernel_rfl,by kernel_rfl,by kernel_rfl⟩
theorem OH:Good 131:=⟨Tryz.f131,Tryz.f131.body.getD .skip,func131,Tryz.func131,by kernel_rfl,by kernel_rfl,by kernel_rfl,by kernel_rfl,by kernel_rfl⟩
theorem OI:Good 132:=⟨Tryz.f132,Tryz.f132.body.getD .skip,func132,Tryz.func132,by kernel_rfl,by kernel_rfl,by kernel_rfl,by kernel_rfl,by kernel_rfl⟩
theorem OJ:Good 133:=⟨Tryz.f133,Tryz.f133.body.getD .skip,func133,Tryz.func133,by kernel_rfl,by kernel_rfl,by kernel_rfl,by kernel_rfl,by kernel_rfl⟩
theorem OL:Good 134:=⟨Tryz.f134,Tryz.f134.body.getD .skip,func134,Tryz.func134,by kernel_rfl,by kernel_rfl,by kernel_rfl,by kernel_rfl,by kernel_rfl⟩
theorem OM:Good 153:=⟨Tryz.f153,Tryz.f153.body.getD .skip,func153,Tryz.func153,by kernel_rfl,by kernel_rfl,by kernel_rfl,by kernel_rfl,by kernel_rfl⟩
theorem ON:Good 154:=⟨Tryz.f154,Tryz.f154.body.getD .skip,func154,Tryz.func154,by kernel_rfl,by kernel_rfl,by kernel_rfl,by kernel_rfl,by kernel_rfl⟩
theorem OO:Good 155:=⟨Tryz.f155,Tryz.f155.body.getD .skip,func155,Tryz.func155,by kernel_rfl,by kernel_rfl,by kernel_rfl,by kernel_rfl,by kernel_rfl⟩
theorem OP:Good 156:=⟨Tryz.f156,Tryz.f156.body.getD .skip,func156,Tryz.func156,by kernel_rfl,by kernel_rfl,by kernel_rfl,by kernel_rfl,by kernel_rfl⟩
theorem OQ:Good 157:=⟨Tryz.f157,Tryz.f157.body.getD .skip,func157,Tryz.func157,by kernel_rfl,by kernel_rfl,by kernel_rfl,by kernel_rfl,by kernel_rfl⟩
theorem OR:Good 158:=⟨Tryz.f158,Tryz.f158.body.getD .skip,func158,Tryz.func158,by kernel_rfl,by kernel_rfl,by kernel_rfl,by kernel_rfl,by kernel_rfl⟩
theorem OS:Good 159:=⟨Tryz.f159,Tryz.f159.body.getD .skip,func159,Tryz.func159,by kernel_rfl,by kernel_rfl,by kernel_rfl,by kernel_rfl,by kernel_rfl⟩
theorem OT:Good 160:=⟨Tryz.f160,Tryz.f160.body.getD .skip,func160,Tryz.func160,by kernel_rfl,by kernel_rfl,by kernel_rfl,by kernel_rfl,by kernel_rfl⟩
theorem OU:Good 161:=⟨Tryz.f161,Tryz.f161.body.getD .skip,func161,Tryz.func161,by kernel_rfl,by kernel_rfl,by kernel_rfl,by kernel_rfl,by kernel_rfl⟩
theorem OV:Good 162:=⟨Tryz.f162,Tryz.f162.body.getD .skip,func162,Tryz.func162,by kernel_rfl,by kernel_rfl,by kernel_rfl,by kernel_rfl,by kernel_rfl⟩
theorem OX:Good 163:=⟨Tryz.f163,Tryz.f163.body.getD .skip,func163,Tryz.func163,by kernel_rfl,by kernel_rfl,by kernel_rfl,by kernel_rfl,by kernel_rfl⟩
theorem OY:Good 164:=⟨Tryz.f164,Tryz.f164.body.getD .skip,func164,Tryz.func164,by kernel_rfl,by kernel_rfl,by kernel_rfl,by kernel_rfl,by kernel_rfl⟩
theorem OZ:Good 165:=⟨Tryz.f165,Tryz.f165.body.getD .skip,func165,Tryz.func165,by kernel_rfl,by kernel_rfl,by kernel_rfl,by kernel_rfl,by kernel_rfl⟩
theorem O0:Good 166:=⟨Tryz.f166,Tryz.f166.body.getD .skip,func166,Tryz.func166,by kernel_rfl,by kernel_rfl,by kernel_rfl,by kernel_rfl,by kernel_rfl⟩
theorem O3:Good 167:=⟨Tryz.f167,Tryz.f167.body.getD .skip,func167,Tryz.func167,by kernel_rfl,by kernel_rfl,by kernel_rfl,by kernel_rfl,by kernel_rfl⟩
theorem O4:Good 168:=⟨Tryz.f168,Tryz.f168.body.getD .skip,func168,Tryz.func168,by kernel_rfl,by kernel_rfl,by kernel_rfl,by kernel_rfl,by kernel_rfl⟩
theorem O5:Good 174:=⟨Tryz.f174,Tryz.f174.body.getD .skip,func174,Tryz.func174,by kernel_rfl,by kernel_rfl,by kernel_rfl,by kernel_rfl,by kernel_rfl⟩
theorem O6:Good 175:=⟨Tryz.f175,Tryz.f175.body.getD .skip,func175,Tryz.func175,by kernel_rfl,by kernel_rfl,by kernel_rfl,by kernel_rfl,by kernel_rfl⟩
theorem O7:Good 176:=⟨Tryz.f176,Tryz.f176.body.getD .skip,func176,Tryz.func176,by kernel_rfl,by kernel_rfl,by kernel_rfl,by kernel_rfl,by kernel_rfl⟩
theorem O8:Good 177:=⟨Tryz.f177,Tryz.f177.body.getD .skip,func177,Tryz.func177,by kernel_rfl,by kernel_rfl,by kernel_rfl,by kernel_rfl,by kernel_rfl⟩
theorem O9:Good 178:=⟨Tryz.f178,Tryz.f178.body.getD .skip,func178,Tryz.func178,by kernel_rfl,by kernel_rfl,by kernel_rfl,by kernel_rfl,by kernel_rfl⟩
theorem Pa:Good 179:=⟨Tryz.f179,Tryz.f179.body.getD .skip,func179,Tryz.func179,by kernel_rfl,by kernel_rfl,by kernel_rfl,by kernel_rfl,by kernel_rfl⟩
theorem Pb:Good 180:=⟨Tryz.f180,Tryz.f180.body.getD .skip,func180,Tryz.func180,by kernel_rfl,by kernel_rfl,by kernel_rfl,by kernel_rfl,by kernel_rfl⟩
theorem inK:∀k,k<181→keep k=true→k∈[3,4,5,6,7,8,9,10,11,12,13,14,15,16,17,18,19,20,21,22,23,24,25,26,27,28,29,30,31,32,33,34,35,36,37,38,39,40,41,42,43,44,45,46,47,48,49,50,51,52,53,54,55,56,57,58,59,60,61,62,63,64,65,66,67,68,70,71,72,73,74,75,76,77,78,79,80,81,82,83,84,85,86,87,88,89,90,91,92,93,94,95,96,97,98,99,100,101,102,103,104,105,106,107,108,109,110,111,116,117,118,119,120,121,122,123,124,125,126,127,128,129,130,131,132,133,134,153,154,155,156,157,158,159,160,161,162,163,164,165,166,167,168,174,175,176,177,178,179,180]:=by decide +kernel
theorem Ft(k:Nat)(h:keep k=true):Good k:=by
 have hl:k<181:=by
  simp only[keep,Bool.or_eq_true,Bool.and_eq_true,Nat.ble_eq] at h;omega
 have hk:=inK k hl h
 revert k
 intro k h hl hk
 revert hk
 exact (List.forall_mem_cons.2 ⟨g3,List.forall_mem_cons.2 ⟨g4,List.forall_mem_cons.2 ⟨g5,List.forall_mem_cons.2 ⟨g6,List.forall_mem_cons.2 ⟨g7,List.forall_mem_cons.2 ⟨g8,List.forall_mem_cons.2 ⟨g9,List.forall_mem_cons.2 ⟨g10,List.forall_mem_cons.2 ⟨g11,List.forall_mem_cons.2 ⟨g12,List.forall_mem_cons.2 ⟨g13,List.forall_mem_cons.2 ⟨g14,List.forall_mem_cons.2 ⟨g15,List.forall_mem_cons.2 ⟨g16,List.forall_mem_cons.2 ⟨g17,List.forall_mem_cons.2 ⟨g18,List.forall_mem_cons.2 ⟨g19,List.forall_mem_cons.2 ⟨g20,List.forall_mem_cons.2 ⟨g21,List.forall_mem_cons.2 ⟨g22,List.forall_mem_cons.2 ⟨g23,List.forall_mem_cons.2 ⟨g24,List.forall_mem_cons.2 ⟨g25,List.forall_mem_cons.2 ⟨g26,List.forall_mem_cons.2 ⟨g27,List.forall_mem_cons.2 ⟨g28,List.forall_mem_cons.2 ⟨g29,List.forall_mem_cons.2 ⟨g30,List.forall_mem_cons.2 ⟨g31,List.forall_mem_cons.2 ⟨g32,List.forall_mem_cons.2 ⟨g33,List.forall_mem_cons.2 ⟨g34,List.forall_mem_cons.2 ⟨g35,List.forall_mem_cons.2 ⟨g36,List.forall_mem_cons.2 ⟨g37,List.forall_mem_cons.2 ⟨g38,List.forall_mem_cons.2 ⟨g39,List.forall_mem_cons.2 ⟨g40,List.forall_mem_cons.2 ⟨g41,List.forall_mem_cons.2 ⟨g42,List.forall_mem_cons.2 ⟨g43,List.forall_mem_cons.2 ⟨g44,List.forall_mem_cons.2 ⟨g45,List.forall_mem_cons.2 ⟨g46,List.forall_mem_cons.2 ⟨g47,List.forall_mem_cons.2 ⟨g48,List.forall_mem_cons.2 ⟨g49,List.forall_mem_cons.2 ⟨g50,List.forall_mem_cons.2 ⟨g51,List.forall_mem_cons.2 ⟨g52,List.forall_mem_cons.2 ⟨g53,List.forall_mem_cons.2 ⟨g54,List.forall_mem_cons.2 ⟨g55,List.forall_mem_cons.2 ⟨g56,List.forall_mem_cons.2 ⟨g57,List.forall_mem_cons.2 ⟨g58,List.forall_mem_cons.2 ⟨g59,List.forall_mem_cons.2 ⟨g60,List.forall_mem_cons.2 ⟨g61,List.forall_mem_cons.2 ⟨g62,List.forall_mem_cons.2 ⟨g63,List.forall_mem_cons.2 ⟨g64,List.forall_mem_cons.2 ⟨g65,List.forall_mem_cons.2 ⟨g66,List.forall_mem_cons.2 ⟨g67,List.forall_mem_cons.2 ⟨g68,List.forall_mem_cons.2 ⟨g70,List.forall_mem_cons.2 ⟨g71,List.forall_mem_cons.2 ⟨g72,List.forall_mem_cons.2 ⟨g73,List.forall_mem_cons.2 ⟨g74,List.forall_mem_cons.2 ⟨g75,List.forall_mem_cons.2 ⟨g76,List.forall_mem_cons.2 ⟨g77,List.forall_mem_cons.2 ⟨g78,List.forall_mem_cons.2 ⟨g79,List.forall_mem_cons.2 ⟨g80,List.forall_mem_cons.2 ⟨g81,List.forall_mem_cons.2 ⟨g82,List.forall_mem_cons.2 ⟨g83,List.forall_mem_cons.2 ⟨g84,List.forall_mem_cons.2 ⟨g85,List.forall_mem_cons.2 ⟨g86,List.forall_mem_cons.2 ⟨g87,List.forall_mem_cons.2 ⟨g88,List.forall_mem_cons.2 ⟨g89,List.forall_mem_cons.2 ⟨g90,List.forall_mem_cons.2 ⟨g91,List.forall_mem_cons.2 ⟨g92,List.forall_mem_cons.2 ⟨g93,List.forall_mem_cons.2 ⟨g94,List.forall_mem_cons.2 ⟨g95,List.forall_mem_cons.2 ⟨g96,List.forall_mem_cons.2 ⟨g97,List.forall_mem_cons.2 ⟨g98,List.forall_mem_cons.2 ⟨g99,List.forall_mem_cons.2 ⟨Oc,List.forall_mem_cons.2 ⟨Od,List.forall_mem_cons.2 ⟨Oe,List.forall_mem_cons.2 ⟨Of,List.forall_mem_cons.2 ⟨Og,List.forall_mem_cons.2 ⟨Oh,List.forall_mem_cons.2 ⟨Oi,List.forall_mem_cons.2 ⟨Oj,List.forall_mem_cons.2 ⟨Ok,List.forall_mem_cons.2 ⟨Ol,List.forall_mem_cons.2 ⟨Om,List.forall_mem_cons.2 ⟨On,List.forall_mem_cons.2 ⟨Oo,List.forall_mem_cons.2 ⟨Oq,List.forall_mem_cons.2 ⟨Ot,List.forall_mem_cons.2 ⟨Ou,List.forall_mem_cons.2 ⟨Ov,List.forall_mem_cons.2 ⟨Ow,List.forall_mem_cons.2 ⟨Ox,List.forall_mem_cons.2 ⟨Oy,List.forall_mem_cons.2 ⟨Oz,List.forall_mem_cons.2 ⟨OA,List.forall_mem_cons.2 ⟨OB,List.forall_mem_cons.2 ⟨OC,List.forall_mem_cons.2 ⟨OE,List.forall_mem_cons.2 ⟨OF,List.forall_mem_cons.2 ⟨OG,List.forall_mem_cons.2 ⟨OH,List.forall_mem_cons.2 ⟨OI,List.forall_mem_cons.2 ⟨OJ,List.forall_mem_cons.2 ⟨OL,List.forall_mem_cons.2 ⟨OM,List.forall_mem_cons.2 ⟨ON,List.forall_mem_cons.2 ⟨OO,List.forall_mem_cons.2 ⟨OP,List.forall_mem_cons.2 ⟨OQ,List.forall_mem_cons.2 ⟨OR,List.forall_mem_cons.2 ⟨OS,List.forall_mem_cons.2 ⟨OT,List.forall_mem_cons.2 ⟨OU,List.forall_mem_cons.2 ⟨OV,List.forall_mem_cons.2 ⟨OX,List.forall_mem_cons.2 ⟨OY,List.forall_mem_cons.2 ⟨OZ,List.forall_mem_cons.2 ⟨O0,List.forall_mem_cons.2 ⟨O3,List.forall_mem_cons.2 ⟨O4,List.forall_mem_cons.2 ⟨O5,List.forall_mem_cons.2 ⟨O6,List.forall_mem_cons.2 ⟨O7,List.forall_mem_cons.2 ⟨O8,List.forall_mem_cons.2 ⟨O9,List.forall_mem_cons.2 ⟨Pa,List.forall_mem_cons.2 ⟨Pb,fun _ h=>absurd h (List.not_mem_nil)⟩⟩⟩⟩⟩⟩⟩⟩⟩⟩⟩⟩⟩⟩⟩⟩⟩⟩⟩⟩⟩⟩⟩⟩⟩⟩⟩⟩⟩⟩⟩⟩⟩⟩⟩⟩⟩⟩⟩⟩⟩⟩⟩⟩⟩⟩⟩⟩⟩⟩⟩⟩⟩⟩⟩⟩⟩⟩⟩⟩⟩⟩⟩⟩⟩⟩⟩⟩⟩⟩⟩⟩⟩⟩⟩⟩⟩⟩⟩⟩⟩⟩⟩⟩⟩⟩⟩⟩⟩⟩⟩⟩⟩⟩⟩⟩⟩⟩⟩⟩⟩⟩⟩⟩⟩⟩⟩⟩⟩⟩⟩⟩⟩⟩⟩⟩⟩⟩⟩⟩⟩⟩⟩⟩⟩⟩⟩⟩⟩⟩⟩⟩⟩⟩⟩⟩⟩⟩⟩⟩⟩⟩⟩⟩⟩⟩⟩⟩⟩⟩) k
theorem Pd:(Tryz.f69.name == "runtime.NumGoroutine")=false:=by kernel_rfl
theorem oX:Tryz.f69.body=some (Tryz.f69.body.getD .skip):=by kernel_rfl
theorem Pe:keep 69=false:=rfl
theorem uB:prog.funcs[69]?=some (eH Tryz.f69):=by rw[gO,Tryz.func69];rfl
theorem Pf:@gK prog Tryz.prog (@Cc xfZ prog Tryz.prog) kZ:=by
 refine⟨⟨⟨Tryz.prog.funcs,rfl⟩⟩,fun f=>?_⟩
 rcases hx:Tryz.prog.funcs[f]? with _|fn
 ·exact .inl ⟨by rw[gO,hx];rfl,rfl⟩
 ·by_cases hk:keep f=true
  ·obtain⟨fn',c,h1,h2,h3,h4,h5,h6,h7⟩:=Ft f hk;rw[hx] at h2;cases h2;exact .inr (.inr (.inr ⟨fn,c,h1,rfl,h3,h4,h5,⟨fn,h1,hx,h6⟩,h7⟩))
  ·have hk:keep f=false:=by simpa using hk
   by_cases h20:f=69
   ·subst h20;rw[Tryz.func69] at hx;cases hx;exact .inr (.inl ⟨rfl,eH Tryz.f69,_,Tryz.f69,_,uB,rfl,rfl,rfl,Pd,oX⟩)
   ·refine .inr (.inr (.inl ⟨⟨hk,h20,fn,hx⟩,eH fn,.refuse "known by its contract alone",?_,rfl,rfl⟩));rw[gO,hx];simp[hk]
theorem pR{f:Nat}{fn:Func}(hk:keep f=false)(hx:Tryz.prog.funcs[f]?=some fn)(args:Array Value)(cs:List Frame)(w:World)(g':Goroutine)(w':World)(es:Array Event):stepG prog true (G (Frame.enter prog f args .normal) cs) w≠.go g' w' es:=by
 have hf:prog.funcs[f]?=some (eH fn):=by rw[gO,hx];simp[hk]
 have:Frame.enter prog f args .normal = { fn:=f,tmps:=args++Array.replicate ((eH fn).ntmps-args.size) undef,todo:=[.code (.refuse "known by its contract alone")],defers:=[],mode:=.run,kind:=.normal }:=by
  simp[Frame.enter,hf,eH]
 rw[this];simp[G,stepG,stepG.exec]
theorem Pg:¬(@Cc xfZ prog Tryz.prog).fn 69:=by
 rintro⟨⟨fn,h1,h2,_⟩,_⟩
 rw[Tryz.func69] at h2;cases h2;rw[uB] at h1
 have hb:Tryz.f69.body=some (.refuse "known by its contract alone"):=by
  have h1:=Option.some.inj h1;rw[←h1];rfl
 obtain⟨c,h3,h4⟩:=Tw.E6;rw[h3] at hb;exact h4 (Option.some.inj hb)
@[reducible] def L0:ar where
 E w w':=Bel w.heap.size w w'
 ext h:=h
 xt _ _ _ _:=False
 D _ _:=True
 nil _:=trivial
 ok _:=True
 keep _ _:=trivial
 iL _ _:=trivial
theorem Fu(L:EnvD)(hk:∀f args w R,L.xt f args w R→f=69)(hd:∀(w:World) t d,L.E w { w with tape:=t,drawn:=d }):@nD xfZ L prog Tryz.prog kZ:=by
 refine @nD.mk xfZ L prog Tryz.prog kZ Pf (fun f hb hx=>hb.2.1 hx) hk (fun f h args cs w g' w' es=>?_) (fun f h=>?_) (fun f h=>?_) hd
 ·rcases h with ⟨h1,_,fn,h2⟩|h
  ·exact pR h1 h2 args cs w g' w' es
  ·have h:f=69:=h;subst h;exact pR Pe Tryz.func69 args cs w g' w' es
 ·have h:f=69:=h;subst h;exact Pg
 ·have h:f=69:=h;subst h;rw[uB,Tryz.func69];rfl
section
variable{P:Program}{F:Array Func}
theorem JS(d:Nat)(t:TypeId):ea { P with funcs:=F } d t=ea P d t:=by
 induction d generalizing t with
 |zero=>rfl
 |succ d ih=>
  have hu:({ P with funcs:=F }:Program).underlying t=P.underlying t:=rfl;unfold ea;rw[hu]
  split<;>first|rfl|exact ih _
theorem Ph(o:Oper):gL { P with funcs:=F } o=gL P o:=by
 have hu:∀t,({ P with funcs:=F }:Program).underlying t=P.underlying t:=fun _=>rfl
 unfold gL jy;simp only[hu,JS]
end
theorem JU:prog = { Tw.prog with funcs:=prog.funcs }:=rfl
theorem Pj(o:Oper):gL prog o=gL Tw.prog o:=by rw[JU];exact Ph o
theorem JV(c:Code)(h:@codeOk Tw.xfW Tw.prog c=true):@codeOk xfZ prog c=true:=by
 induction c with
 |seq a b ha hb=>simp only[codeOk,Bool.and_eq_true] at h ⊢;exact⟨ha h.1,hb h.2⟩
 |cond x a b ha hb=>simp only[codeOk,Bool.and_eq_true] at h ⊢;exact⟨ha h.1,hb h.2⟩
 |rangeFunc x y a b ha hb=>simp[codeOk] at h
 |block i c hc=>exact hc h
 |loop c hc=>exact hc h
 |scope c hc=>exact hc h
 |region i ops d=>
  simp only[codeOk,List.all_eq_true] at h ⊢
  exact fun o ho=>(Pj o).trans (h o ho)
 |goto l=>simp[codeOk] at h
 |_=>rfl
theorem JW{f:Nat}(h:Tw.keep f=true):keep f=true:=by
 have:f=107∨f=133:=by simpa[Tw.keep] using h
 rcases this with rfl|rfl<;>rfl
theorem Pk{f:Nat}(h:(@Cc Tw.xfW Tw.prog Tryz.prog).fn f):(@Cc xfZ prog Tryz.prog).fn f:=by
 obtain⟨⟨fn,h1,h2,h3⟩,h4⟩:=h;refine⟨⟨fn,?_,h2,h3⟩,h4⟩;rw[gO,h2];by_cases hk:keep f=true
 ·simp[hk]
 ·have hk2:¬Tw.keep f=true:=fun h=>hk (JW h)
  rw[Tw.gO,h2] at h1;simp only[Option.map_some,if_neg hk2,Option.some.injEq] at h1;simp only[Option.map_some,if_neg hk,Option.some.injEq];exact h1
theorem JX{C C':Cx}(h1:∀c,C.code c→C'.code c)(h2:∀f,C.fn f→C'.fn f)(o:Obj)(h:okO C o):okO C' o:=by
 cases o with
 |loop l=>exact⟨h1 _ h.1,h1 _ h.2.1,h2 _ h.2.2.1,fun c hc=>h1 _ (h.2.2.2 c hc)⟩
 |deferred d=>
  cases d with
  |none=>trivial
  |some d=>cases d with
   |nil=>trivial
   |cons=>exact h
 |_=>exact h
theorem up(o:Obj)(h:okO (@Cc Tw.xfW Tw.prog Tryz.prog) o):okO (@Cc xfZ prog Tryz.prog) o:=JX (fun c hc=>JV c hc) (fun f hf=>Pk hf) o h
theorem Pl(v:Value):Frame.enter Tryz.prog 55 #[v] .normal=Frame.enter prog 55 #[v] .normal:=by
 simp[Frame.enter,Tryz.func55,func55]
theorem zv(v:Value):@bD xfZ prog Tryz.prog (Frame.enter prog 55 #[v] .normal):=by
 obtain⟨fn,c,h1,h2,h3,h4,h5,h6,h7⟩:=g55;exact @bD.enter xfZ _ _ _ _ _ h1 h2 h4 h5 ⟨⟨fn,h1,h2,h6⟩,h7⟩ _
theorem zw{ci ce:Tw.RND→Int}{fr37:Bool}(hc:∀r,@aA L0 prog 55 [Tw.aR r] (.tup [.int .i64 (ci r),.int .i64 (ce r)]) fr37)(hl:∀r,ce r=0→r.os.length≤1000∧r.zs.length≤64∧r.ab.length≤1000):@Tw.mn prog xfZ L0 kZ ci ce fr37:=
 @Tw.mn.mk prog xfZ L0 kZ ci ce fr37 (Fu L0.toEnvD (fun _ _ _ _ h=>h.elim) (fun w t d=>⟨rfl,rfl,Nat.le_refl _,fun _ _=>rfl⟩)) (fun _ h=>h) (fun _ _ _ _ h=>h) up Pl zv hc hl
@[reducible] noncomputable def L1(ce:Tw.RND→Int):ar:=Tw.Fs ce L0
theorem cQ(ce:Tw.RND→Int)(r:Tw.RND):@aA (L1 ce) prog 69 [Tw.aR r] (Tw.iW ce r) false:=by
 refine⟨⟨_,uB,rfl,rfl⟩,fun G w vs _ hl hr c cs hc=>?_⟩
 have hsz:vs.size=1:=by simpa using hl.symm
 obtain⟨v,rfl⟩:∃v,vs=#[v]:=by
  obtain⟨l⟩:=vs
  match l,hsz with
  |[a],_=>exact⟨a,rfl⟩
 have hv:=hr 0 _ v rfl rfl;refine @T.ext (L1 ce).toEnvD _ _ _ _ _ _ _ _ (fun w1 v' w'=>Bel w1.heap.size w1 w'∧Rep (fun b=>b<w1.heap.size→G b) w' (Tw.iW ce r) v') (fun w1 e=>⟨rfl,trivial,r,G,v,rfl,hv.mono (fun _ _ h=>h) (fun b hb _=>Bel.block e b hb),fun v' w' h1 h2=>⟨h1,h2⟩⟩) (fun w1 v' w' e h=>@T.now (L1 ce).toEnvD _ _ _ _ _ _ ⟨rfl,v',⟨v',rfl,Bel.trans e (h.1.mono (Bel.size e)),h.2.imp fun b hb=>⟨fun hlt=>hb (Nat.lt_of_lt_of_le hlt (Bel.size e)),fun h=>by cases h⟩⟩,rfl⟩) (Nat.le_refl _)
end Go.Proofs.Tz
