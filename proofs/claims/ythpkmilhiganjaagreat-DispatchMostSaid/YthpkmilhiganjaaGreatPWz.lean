/- Lemmas. -/
import Derived.Test.YthpkmilhiganjaaGreatProg
import Derived.Test.YthpkmilhiganjaaGreatPMd
import Derived.KernelRfl
set_option linter.all false
set_option maxHeartbeats 32000000
set_option maxRecDepth 100000
namespace Go.Proofs.Tz
open Go
def keep(i:Nat):Bool:=(Nat.ble 3 i&&Nat.ble i 68) || (Nat.ble 70 i&&Nat.ble i 111) || (Nat.ble 116 i&&Nat.ble i 134) || (Nat.ble 153 i&&Nat.ble i 168) || (Nat.ble 174 i&&Nat.ble i 180)
def gw(f:Func):Func:={ f with body:=some (.refuse "known by its contract alone"),name := "" }
noncomputable def prog:Program:={ Tryz.prog with funcs:=Tryz.prog.funcs.mapIdx λi f=>if keep i then f else gw f }
theorem cj(f:Nat):prog.funcs[f]?=(Tryz.prog.funcs[f]?).map λfn=>if keep f then fn else gw fn:=by
 unfold prog;simp only[qn]
@[simp]theorem func6:prog.funcs[6]?=some Tryz.f6:=by rw[cj,Tryz.func6];rfl
@[simp]theorem func15:prog.funcs[15]?=some Tryz.f15:=by rw[cj,Tryz.func15];rfl
@[simp]theorem func16:prog.funcs[16]?=some Tryz.f16:=by rw[cj,Tryz.func16];rfl
@[simp]theorem func17:prog.funcs[17]?=some Tryz.f17:=by rw[cj,Tryz.func17];rfl
@[simp]theorem func18:prog.funcs[18]?=some Tryz.f18:=by rw[cj,Tryz.func18];rfl
@[simp]theorem func20:prog.funcs[20]?=some Tryz.f20:=by rw[cj,Tryz.func20];rfl
@[simp]theorem func23:prog.funcs[23]?=some Tryz.f23:=by rw[cj,Tryz.func23];rfl
@[simp]theorem func24:prog.funcs[24]?=some Tryz.f24:=by rw[cj,Tryz.func24];rfl
@[simp]theorem func25:prog.funcs[25]?=some Tryz.f25:=by rw[cj,Tryz.func25];rfl
@[simp]theorem func27:prog.funcs[27]?=some Tryz.f27:=by rw[cj,Tryz.func27];rfl
@[simp]theorem func28:prog.funcs[28]?=some Tryz.f28:=by rw[cj,Tryz.func28];rfl
@[simp]theorem func29:prog.funcs[29]?=some Tryz.f29:=by rw[cj,Tryz.func29];rfl
@[simp]theorem func30:prog.funcs[30]?=some Tryz.f30:=by rw[cj,Tryz.func30];rfl
@[simp]theorem func31:prog.funcs[31]?=some Tryz.f31:=by rw[cj,Tryz.func31];rfl
@[simp]theorem func32:prog.funcs[32]?=some Tryz.f32:=by rw[cj,Tryz.func32];rfl
@[simp]theorem func33:prog.funcs[33]?=some Tryz.f33:=by rw[cj,Tryz.func33];rfl
@[simp]theorem func34:prog.funcs[34]?=some Tryz.f34:=by rw[cj,Tryz.func34];rfl
@[simp]theorem func35:prog.funcs[35]?=some Tryz.f35:=by rw[cj,Tryz.func35];rfl
@[simp]theorem func36:prog.funcs[36]?=some Tryz.f36:=by rw[cj,Tryz.func36];rfl
@[simp]theorem func42:prog.funcs[42]?=some Tryz.f42:=by rw[cj,Tryz.func42];rfl
@[simp]theorem func43:prog.funcs[43]?=some Tryz.f43:=by rw[cj,Tryz.func43];rfl
@[simp]theorem func45:prog.funcs[45]?=some Tryz.f45:=by rw[cj,Tryz.func45];rfl
@[simp]theorem func50:prog.funcs[50]?=some Tryz.f50:=by rw[cj,Tryz.func50];rfl
@[simp]theorem func52:prog.funcs[52]?=some Tryz.f52:=by rw[cj,Tryz.func52];rfl
@[simp]theorem func55:prog.funcs[55]?=some Tryz.f55:=by rw[cj,Tryz.func55];rfl
@[simp]theorem func58:prog.funcs[58]?=some Tryz.f58:=by rw[cj,Tryz.func58];rfl
@[simp]theorem func59:prog.funcs[59]?=some Tryz.f59:=by rw[cj,Tryz.func59];rfl
@[simp]theorem func60:prog.funcs[60]?=some Tryz.f60:=by rw[cj,Tryz.func60];rfl
@[simp]theorem func67:prog.funcs[67]?=some Tryz.f67:=by rw[cj,Tryz.func67];rfl
@[simp]theorem func68:prog.funcs[68]?=some Tryz.f68:=by rw[cj,Tryz.func68];rfl
@[simp]theorem func70:prog.funcs[70]?=some Tryz.f70:=by rw[cj,Tryz.func70];rfl
@[simp]theorem func71:prog.funcs[71]?=some Tryz.f71:=by rw[cj,Tryz.func71];rfl
@[simp]theorem func72:prog.funcs[72]?=some Tryz.f72:=by rw[cj,Tryz.func72];rfl
@[simp]theorem func73:prog.funcs[73]?=some Tryz.f73:=by rw[cj,Tryz.func73];rfl
@[simp]theorem func74:prog.funcs[74]?=some Tryz.f74:=by rw[cj,Tryz.func74];rfl
@[simp]theorem func75:prog.funcs[75]?=some Tryz.f75:=by rw[cj,Tryz.func75];rfl
@[simp]theorem func76:prog.funcs[76]?=some Tryz.f76:=by rw[cj,Tryz.func76];rfl
@[simp]theorem func77:prog.funcs[77]?=some Tryz.f77:=by rw[cj,Tryz.func77];rfl
@[simp]theorem func78:prog.funcs[78]?=some Tryz.f78:=by rw[cj,Tryz.func78];rfl
@[simp]theorem func79:prog.funcs[79]?=some Tryz.f79:=by rw[cj,Tryz.func79];rfl
@[simp]theorem func80:prog.funcs[80]?=some Tryz.f80:=by rw[cj,Tryz.func80];rfl
@[simp]theorem func81:prog.funcs[81]?=some Tryz.f81:=by rw[cj,Tryz.func81];rfl
@[simp]theorem func82:prog.funcs[82]?=some Tryz.f82:=by rw[cj,Tryz.func82];rfl
@[simp]theorem func83:prog.funcs[83]?=some Tryz.f83:=by rw[cj,Tryz.func83];rfl
@[simp]theorem func84:prog.funcs[84]?=some Tryz.f84:=by rw[cj,Tryz.func84];rfl
@[simp]theorem func85:prog.funcs[85]?=some Tryz.f85:=by rw[cj,Tryz.func85];rfl
@[simp]theorem func86:prog.funcs[86]?=some Tryz.f86:=by rw[cj,Tryz.func86];rfl
@[simp]theorem func87:prog.funcs[87]?=some Tryz.f87:=by rw[cj,Tryz.func87];rfl
@[simp]theorem func89:prog.funcs[89]?=some Tryz.f89:=by rw[cj,Tryz.func89];rfl
@[simp]theorem func91:prog.funcs[91]?=some Tryz.f91:=by rw[cj,Tryz.func91];rfl
@[simp]theorem func93:prog.funcs[93]?=some Tryz.f93:=by rw[cj,Tryz.func93];rfl
@[simp]theorem func95:prog.funcs[95]?=some Tryz.f95:=by rw[cj,Tryz.func95];rfl
@[simp]theorem func96:prog.funcs[96]?=some Tryz.f96:=by rw[cj,Tryz.func96];rfl
@[simp]theorem func97:prog.funcs[97]?=some Tryz.f97:=by rw[cj,Tryz.func97];rfl
@[simp]theorem func99:prog.funcs[99]?=some Tryz.f99:=by rw[cj,Tryz.func99];rfl
@[simp]theorem func100:prog.funcs[100]?=some Tryz.f100:=by rw[cj,Tryz.func100];rfl
@[simp]theorem func101:prog.funcs[101]?=some Tryz.f101:=by rw[cj,Tryz.func101];rfl
@[simp]theorem func102:prog.funcs[102]?=some Tryz.f102:=by rw[cj,Tryz.func102];rfl
@[simp]theorem func103:prog.funcs[103]?=some Tryz.f103:=by rw[cj,Tryz.func103];rfl
@[simp]theorem func104:prog.funcs[104]?=some Tryz.f104:=by rw[cj,Tryz.func104];rfl
@[simp]theorem func105:prog.funcs[105]?=some Tryz.f105:=by rw[cj,Tryz.func105];rfl
@[simp]theorem func106:prog.funcs[106]?=some Tryz.f106:=by rw[cj,Tryz.func106];rfl
@[simp]theorem func107:prog.funcs[107]?=some Tryz.f107:=by rw[cj,Tryz.func107];rfl
@[simp]theorem func108:prog.funcs[108]?=some Tryz.f108:=by rw[cj,Tryz.func108];rfl
@[simp]theorem func109:prog.funcs[109]?=some Tryz.f109:=by rw[cj,Tryz.func109];rfl
@[simp]theorem func110:prog.funcs[110]?=some Tryz.f110:=by rw[cj,Tryz.func110];rfl
@[simp]theorem func111:prog.funcs[111]?=some Tryz.f111:=by rw[cj,Tryz.func111];rfl
@[simp]theorem func116:prog.funcs[116]?=some Tryz.f116:=by rw[cj,Tryz.func116];rfl
@[simp]theorem func117:prog.funcs[117]?=some Tryz.f117:=by rw[cj,Tryz.func117];rfl
@[simp]theorem func118:prog.funcs[118]?=some Tryz.f118:=by rw[cj,Tryz.func118];rfl
@[simp]theorem func119:prog.funcs[119]?=some Tryz.f119:=by rw[cj,Tryz.func119];rfl
@[simp]theorem func120:prog.funcs[120]?=some Tryz.f120:=by rw[cj,Tryz.func120];rfl
@[simp]theorem func121:prog.funcs[121]?=some Tryz.f121:=by rw[cj,Tryz.func121];rfl
@[simp]theorem func122:prog.funcs[122]?=some Tryz.f122:=by rw[cj,Tryz.func122];rfl
@[simp]theorem func123:prog.funcs[123]?=some Tryz.f123:=by rw[cj,Tryz.func123];rfl
@[simp]theorem func124:prog.funcs[124]?=some Tryz.f124:=by rw[cj,Tryz.func124];rfl
@[simp]theorem func125:prog.funcs[125]?=some Tryz.f125:=by rw[cj,Tryz.func125];rfl
@[simp]theorem func126:prog.funcs[126]?=some Tryz.f126:=by rw[cj,Tryz.func126];rfl
@[simp]theorem func127:prog.funcs[127]?=some Tryz.f127:=by rw[cj,Tryz.func127];rfl
@[simp]theorem func128:prog.funcs[128]?=some Tryz.f128:=by rw[cj,Tryz.func128];rfl
@[simp]theorem func129:prog.funcs[129]?=some Tryz.f129:=by rw[cj,Tryz.func129];rfl
@[simp]theorem func130:prog.funcs[130]?=some Tryz.f130:=by rw[cj,Tryz.func130];rfl
@[simp]theorem func131:prog.funcs[131]?=some Tryz.f131:=by rw[cj,Tryz.func131];rfl
@[simp]theorem func132:prog.funcs[132]?=some Tryz.f132:=by rw[cj,Tryz.func132];rfl
@[simp]theorem func133:prog.funcs[133]?=some Tryz.f133:=by rw[cj,Tryz.func133];rfl
@[simp]theorem func134:prog.funcs[134]?=some Tryz.f134:=by rw[cj,Tryz.func134];rfl
@[simp]theorem func154:prog.funcs[154]?=some Tryz.f154:=by rw[cj,Tryz.func154];rfl
@[simp]theorem func155:prog.funcs[155]?=some Tryz.f155:=by rw[cj,Tryz.func155];rfl
@[simp]theorem func156:prog.funcs[156]?=some Tryz.f156:=by rw[cj,Tryz.func156];rfl
@[simp]theorem func157:prog.funcs[157]?=some Tryz.f157:=by rw[cj,Tryz.func157];rfl
@[simp]theorem func158:prog.funcs[158]?=some Tryz.f158:=by rw[cj,Tryz.func158];rfl
@[simp]theorem func159:prog.funcs[159]?=some Tryz.f159:=by rw[cj,Tryz.func159];rfl
@[simp]theorem func160:prog.funcs[160]?=some Tryz.f160:=by rw[cj,Tryz.func160];rfl
@[simp]theorem func161:prog.funcs[161]?=some Tryz.f161:=by rw[cj,Tryz.func161];rfl
@[simp]theorem func162:prog.funcs[162]?=some Tryz.f162:=by rw[cj,Tryz.func162];rfl
@[simp]theorem func163:prog.funcs[163]?=some Tryz.f163:=by rw[cj,Tryz.func163];rfl
@[simp]theorem func164:prog.funcs[164]?=some Tryz.f164:=by rw[cj,Tryz.func164];rfl
@[simp]theorem func165:prog.funcs[165]?=some Tryz.f165:=by rw[cj,Tryz.func165];rfl
@[simp]theorem func166:prog.funcs[166]?=some Tryz.f166:=by rw[cj,Tryz.func166];rfl
@[simp]theorem func167:prog.funcs[167]?=some Tryz.f167:=by rw[cj,Tryz.func167];rfl
@[simp]theorem func168:prog.funcs[168]?=some Tryz.f168:=by rw[cj,Tryz.func168];rfl
@[simp]theorem func174:prog.funcs[174]?=some Tryz.f174:=by rw[cj,Tryz.func174];rfl
@[simp]theorem func175:prog.funcs[175]?=some Tryz.f175:=by rw[cj,Tryz.func175];rfl
@[simp]theorem func176:prog.funcs[176]?=some Tryz.f176:=by rw[cj,Tryz.func176];rfl
@[simp]theorem func177:prog.funcs[177]?=some Tryz.f177:=by rw[cj,Tryz.func177];rfl
@[simp]theorem func178:prog.funcs[178]?=some Tryz.f178:=by rw[cj,Tryz.func178];rfl
@[simp]theorem func179:prog.funcs[179]?=some Tryz.f179:=by rw[cj,Tryz.func179];rfl
@[simp]theorem func180:prog.funcs[180]?=some Tryz.f180:=by rw[cj,Tryz.func180];rfl
end Go.Proofs.Tz
