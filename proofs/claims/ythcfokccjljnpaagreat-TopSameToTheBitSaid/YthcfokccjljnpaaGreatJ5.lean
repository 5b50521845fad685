/- Contracts over the abstract machine, and the crowd of workers. Conditions: none. -/
import Derived.ChangeKeysEq
import Derived.Laws.FloatArith
import Derived.Laws.ComplexArith
import Derived.WalkKit
import Derived.Lib.Mul64
import Derived.Laws.Bits64b
import Derived.Test.YthcfokccjljnpaaGreatJ4
import Derived.Test.YthcfokccjljnpaaGreatJ2
import Derived.Test.YthcfokccjljnpaaGreatJ3
set_option linter.unusedVariables false
set_option linter.unusedSimpArgs false
set_option linter.unusedSectionVars false
set_option maxRecDepth 100000
namespace Go.Proofs.YthcfokccjljnpaaGreat.Am
open Go.Proofs.Tryz Go
theorem mixed:qP.follows .mixedOrders:=by kernel_rfl
theorem xa{w0:Cx}{st:St}{l:List Z8}{id:Nat}{draw:Bool}{R:Exit->St->Prop}(n:Nat)(hW:wK qP w0 st l n (l.take n) 0 (λ_=>.dead) st (λst'=>tj qP w0 l (l.drop n) R st'))(h:(vX l n st.n&&decide (n<=l.length)&&(!draw||wu l n))=true:=by kernel_rfl):dG qP w0 (.region id l.toArray draw) R st:=ca n mixed h hW
theorem en6:cA qP 6:=by kernel_rfl
theorem en9:cA qP 9:=by kernel_rfl
theorem aF5:cA qP 10:=by kernel_rfl
theorem aF4:cA qP 11:=by kernel_rfl
theorem aF3:cA qP 12:=by kernel_rfl
theorem VN:cA qP 14:=by kernel_rfl
theorem aF1:cA qP 15:=by kernel_rfl
theorem be0:cA qP 16:=by kernel_rfl
theorem aS0:cA qP 17:=by kernel_rfl
theorem aF0:cA qP 19:=by kernel_rfl
theorem bd8:cA qP 21:=by kernel_rfl
theorem aE9:cA qP 22:=by kernel_rfl
theorem aE8:cA qP 23:=by kernel_rfl
theorem aE7:cA qP 24:=by kernel_rfl
theorem aE6:cA qP 25:=by kernel_rfl
theorem an4:cA qP 26:=by kernel_rfl
theorem VM:cA qP 28:=by kernel_rfl
theorem an3:cA qP 29:=by kernel_rfl
theorem aE4:cA qP 30:=by kernel_rfl
theorem JD:cA qP 31:=by kernel_rfl
theorem F4:cA qP 37:=by kernel_rfl
theorem an2:cA qP 38:=by kernel_rfl
theorem an1:cA qP 39:=by kernel_rfl
theorem aE2:cA qP 40:=by kernel_rfl
theorem aE1:cA qP 41:=by kernel_rfl
theorem nA:cA qP 42:=by kernel_rfl
theorem aE0:cA qP 43:=by kernel_rfl
theorem VL:cA qP 44:=by kernel_rfl
theorem an0:cA qP 45:=by kernel_rfl
theorem NK:cA qP 50:=by kernel_rfl
theorem bg0:cA qP 54:=by kernel_rfl
theorem bf9:cA qP 55:=by kernel_rfl
theorem bf8:cA qP 56:=by kernel_rfl
theorem aD9:cA qP 57:=by kernel_rfl
theorem aD8:cA qP 58:=by kernel_rfl
theorem aD7:cA qP 59:=by kernel_rfl
theorem am9:cA qP 60:=by kernel_rfl
theorem am8:cA qP 61:=by kernel_rfl
theorem am7:cA qP 62:=by kernel_rfl
theorem aD6:cA qP 63:=by kernel_rfl
theorem am6:cA qP 64:=by kernel_rfl
theorem am5:cA qP 66:=by kernel_rfl
theorem pO:cA qP 68:=by kernel_rfl
theorem aD4:cA qP 69:=by kernel_rfl
theorem am3:cA qP 71:=by kernel_rfl
theorem aD3:cA qP 72:=by kernel_rfl
theorem aD2:cA qP 73:=by kernel_rfl
theorem aD1:cA qP 92:=by kernel_rfl
theorem aD0:cA qP 93:=by kernel_rfl
theorem aC9:cA qP 94:=by kernel_rfl
theorem aC8:cA qP 95:=by kernel_rfl
theorem am2:cA qP 96:=by kernel_rfl
theorem am1:cA qP 97:=by kernel_rfl
theorem be2:cA qP 100:=by kernel_rfl
theorem be1:cA qP 101:=by kernel_rfl
theorem yZ:cA qP 102:=by kernel_rfl
theorem aN6:cA qP 103:=by kernel_rfl
theorem NT:cA qP 104:=by kernel_rfl
theorem ar3:cA qP 105:=by kernel_rfl
theorem ar2:cA qP 106:=by kernel_rfl
theorem ar1:cA qP 107:=by kernel_rfl
theorem ar0:cA qP 108:=by kernel_rfl
theorem Tu:cA qP 109:=by kernel_rfl
theorem aq9:cA qP 110:=by kernel_rfl
theorem Tt:cA qP 111:=by kernel_rfl
theorem Du:cA qP 113:=by kernel_rfl
theorem NS:cA qP 114:=by kernel_rfl
theorem NR:cA qP 115:=by kernel_rfl
theorem aq7:cA qP 116:=by kernel_rfl
theorem aq6:cA qP 117:=by kernel_rfl
theorem aq5:cA qP 118:=by kernel_rfl
theorem aq4:cA qP 119:=by kernel_rfl
theorem aq3:cA qP 125:=by kernel_rfl
theorem Ts:cA qP 126:=by kernel_rfl
theorem aq2:cA qP 127:=by kernel_rfl
theorem aq1:cA qP 128:=by kernel_rfl
theorem NQ:cA qP 129:=by kernel_rfl
theorem Tr:cA qP 133:=by kernel_rfl
theorem aq0:cA qP 134:=by kernel_rfl
theorem ap9:cA qP 135:=by kernel_rfl
theorem ap8:cA qP 136:=by kernel_rfl
theorem ap7:cA qP 137:=by kernel_rfl
theorem ap6:cA qP 138:=by kernel_rfl
theorem ap5:cA qP 139:=by kernel_rfl
theorem Tq:cA qP 140:=by kernel_rfl
theorem NP:cA qP 142:=by kernel_rfl
theorem Tp:cA qP 143:=by kernel_rfl
theorem Dt:cA qP 144:=by kernel_rfl
theorem Ds:cA qP 145:=by kernel_rfl
theorem ap3:cA qP 146:=by kernel_rfl
theorem ap2:cA qP 147:=by kernel_rfl
theorem ap1:cA qP 148:=by kernel_rfl
theorem To:cA qP 149:=by kernel_rfl
theorem ap0:cA qP 150:=by kernel_rfl
theorem Tn:cA qP 151:=by kernel_rfl
theorem ao9:cA qP 153:=by kernel_rfl
theorem ao8:cA qP 154:=by kernel_rfl
theorem ao7:cA qP 155:=by kernel_rfl
theorem NO:cA qP 156:=by kernel_rfl
theorem NN:cA qP 157:=by kernel_rfl
theorem Tl:cA qP 158:=by kernel_rfl
theorem NM:cA qP 159:=by kernel_rfl
theorem Tj:cA qP 160:=by kernel_rfl
theorem Ti:cA qP 161:=by kernel_rfl
theorem Dr:cA qP 162:=by kernel_rfl
theorem yY:cA qP 163:=by kernel_rfl
theorem ao6:cA qP 164:=by kernel_rfl
theorem Th:cA qP 165:=by kernel_rfl
theorem Tg:cA qP 166:=by kernel_rfl
theorem H5:cA qP 167:=by kernel_rfl
theorem Tf:cA qP 168:=by kernel_rfl
theorem ao5:cA qP 169:=by kernel_rfl
theorem ao4:cA qP 170:=by kernel_rfl
theorem Te:cA qP 171:=by kernel_rfl
theorem ao3:cA qP 172:=by kernel_rfl
theorem Dq:cA qP 173:=by kernel_rfl
theorem ao2:cA qP 174:=by kernel_rfl
theorem NL:cA qP 175:=by kernel_rfl
theorem Td:cA qP 176:=by kernel_rfl
theorem Tc:cA qP 177:=by kernel_rfl
theorem Tb:cA qP 178:=by kernel_rfl
theorem ao1:cA qP 179:=by kernel_rfl
theorem ao0:cA qP 180:=by kernel_rfl
theorem Ta:cA qP 181:=by kernel_rfl
theorem S9:cA qP 182:=by kernel_rfl
theorem an9:cA qP 183:=by kernel_rfl
theorem S8:cA qP 184:=by kernel_rfl
theorem an8:cA qP 185:=by kernel_rfl
theorem an7:cA qP 186:=by kernel_rfl
theorem an6:cA qP 187:=by kernel_rfl
theorem an5:cA qP 188:=by kernel_rfl
theorem mF:szB qP 3 false 1:=by kernel_rfl
theorem by3:Ey qP 3 8:=by kernel_rfl
theorem Br:eC qP 3 (.int .i64 0):=by unfold eC;kernel_rfl
theorem vU:vH qP 3 .i64:=by kernel_rfl
theorem sz4:szB qP 4 false 1:=by kernel_rfl
theorem zr4:eC qP 4 (.bool false):=by unfold eC;kernel_rfl
theorem sz5:szB qP 5 false 1:=by kernel_rfl
theorem by5:Ey qP 5 1:=by kernel_rfl
theorem zr5:eC qP 5 (.int .u8 0):=by unfold eC;kernel_rfl
theorem I7:vH qP 5 .u8:=by kernel_rfl
theorem xC:isStr qP 9:=by kernel_rfl
theorem aN3:vH qP 21 .i32:=by kernel_rfl
theorem jP:szB qP 22 false 1:=by kernel_rfl
theorem xg:slB qP 22 33 2:=by kernel_rfl
theorem kA:tV qP 22:=by kernel_rfl
theorem lh:szB qP 24 true 4:=by kernel_rfl
theorem Xh:eC qP 24 (.agg #[.int .i64 0,.int .i64 0,.int .i64 0,.int .i64 0]):=by unfold eC;kernel_rfl
theorem AL:fldB qP 24 0 0:=by kernel_rfl
theorem AK:fldB qP 24 1 1:=by kernel_rfl
theorem rf:fldB qP 24 2 2:=by kernel_rfl
theorem fD:fldB qP 24 3 3:=by kernel_rfl
theorem av8:uu qP 24 [(0,1),(1,1),(2,1),(3,1)]:=by kernel_rfl
theorem ab4:szB qP 26 true 2:=by kernel_rfl
theorem at5:eC qP 26 (.agg #[.int .i64 0,.int .i64 0]):=by unfold eC;kernel_rfl
theorem AJ:fldB qP 26 0 0:=by kernel_rfl
theorem uF:fldB qP 26 1 1:=by kernel_rfl
theorem av7:uu qP 26 [(0,1),(1,1)]:=by kernel_rfl
theorem po:szB qP 28 true 11:=by kernel_rfl
theorem Xe:eC qP 28 (.agg #[.slice none 0 0,.int .i64 0,.int .i64 0,.int .i64 0,.int .i64 0,.int .i64 0,.int .i64 0,.int .i64 0,.int .i64 0,.int .i64 0,.int .i64 0]):=by unfold eC;kernel_rfl
theorem du:fldB qP 28 0 0:=by kernel_rfl
theorem iA:fldB qP 28 1 1:=by kernel_rfl
theorem om:fldB qP 28 2 5:=by kernel_rfl
theorem q9:fldB qP 28 3 9:=by kernel_rfl
theorem av6:uu qP 28 [(0,1),(1,4),(5,4),(9,2)]:=by kernel_rfl
theorem oF:szB qP 29 false 1:=by kernel_rfl
theorem xf:slB qP 29 120 1:=by kernel_rfl
theorem qD:tV qP 29:=by kernel_rfl
theorem BD:szB qP 31 true 2:=by kernel_rfl
theorem Pm:eC qP 31 (.agg #[.int .i64 0,.slice none 0 0]):=by unfold eC;kernel_rfl
theorem fB:fldB qP 31 0 0:=by kernel_rfl
theorem fU:fldB qP 31 1 1:=by kernel_rfl
theorem ae1:uu qP 31 [(0,1),(1,1)]:=by kernel_rfl
theorem fM:szB qP 33 true 2:=by kernel_rfl
theorem aG2:Ey qP 33 16:=by kernel_rfl
theorem r9:eC qP 33 (.agg #[.int .i64 0,.int .i64 0]):=by unfold eC;kernel_rfl
theorem gU:fldB qP 33 0 0:=by kernel_rfl
theorem dQ:fldB qP 33 1 1:=by kernel_rfl
theorem F1:(match qP.underlying 33 with|some (.struct fs)=>(fs[1]?).map (λfd=>(fd.offset,fd.type))|_=>none)=some (1,3):=by kernel_rfl
theorem LG:uu qP 33 [(0,1),(1,1)]:=by kernel_rfl
theorem mI:szB qP 35 true 5:=by kernel_rfl
theorem Xd:eC qP 35 (.agg #[.int .i64 0,.int .i64 0,.int .i64 0,.int .i64 0,.int .i64 0]):=by unfold eC;kernel_rfl
theorem gT:fldB qP 35 0 0:=by kernel_rfl
theorem fA:fldB qP 35 1 2:=by kernel_rfl
theorem l8:fldB qP 35 2 3:=by kernel_rfl
theorem oi:fldB qP 35 3 4:=by kernel_rfl
theorem ae0:uu qP 35 [(0,2),(2,1),(3,1),(4,1)]:=by kernel_rfl
theorem kJ:szB qP 37 true 18:=by kernel_rfl
theorem Pk:eC qP 37 (.agg #[.slice none 0 0,.int .i64 0,.int .i64 0,.int .i64 0,.int .i64 0,.int .i64 0,.int .i64 0,.int .i64 0,.int .i64 0,.int .i64 0,.int .i64 0,.int .i64 0,.slice none 0 0,.int .i64 0,.int .i64 0,.int .i64 0,.int .i64 0,.int .i64 0]):=by unfold eC;kernel_rfl
theorem fc:fldB qP 37 0 0:=by kernel_rfl
theorem iz:fldB qP 37 1 11:=by kernel_rfl
theorem fy:fldB qP 37 2 13:=by kernel_rfl
theorem ad9:uu qP 37 [(0,11),(11,2),(13,5)]:=by kernel_rfl
theorem Ed:szB qP 38 false 1:=by kernel_rfl
theorem uW:slB qP 38 64 1:=by kernel_rfl
theorem tC:tV qP 38:=by kernel_rfl
theorem PW:slB qP 42 71 1:=by kernel_rfl
theorem yF:tV qP 42:=by kernel_rfl
theorem TY:szB qP 43 false 1:=by kernel_rfl
theorem EA:eC qP 43 (.int .i64 0):=by unfold eC;kernel_rfl
theorem Dn:fldB qP 56 0 0:=by kernel_rfl
theorem Hp:fldB qP 56 1 1:=by kernel_rfl
theorem J0:fldB qP 56 2 2:=by kernel_rfl
theorem aI5:szB qP 61 true 3:=by kernel_rfl
theorem aj9:eC qP 61 (.agg #[.int .i64 0,.int .i64 0,.slice none 0 0]):=by unfold eC;kernel_rfl
theorem Hi:fldB qP 61 0 0:=by kernel_rfl
theorem Az:fldB qP 61 1 1:=by kernel_rfl
theorem aQ5:uu qP 61 [(0,1),(1,2)]:=by kernel_rfl
theorem pn:szB qP 64 false 1:=by kernel_rfl
theorem aG1:Ey qP 64 24:=by kernel_rfl
theorem TM:eC qP 64 (.slice none 0 0):=by unfold eC;kernel_rfl
theorem gK:slB qP 64 3 1:=by kernel_rfl
theorem iX:tV qP 64:=by kernel_rfl
theorem ab3:szB qP 71 false 1:=by kernel_rfl
theorem aG0:Ey qP 71 16:=by kernel_rfl
theorem Xc:eC qP 71 (.complex .f64 0 0):=by unfold eC;kernel_rfl
theorem dM:szB qP 76 true 2:=by kernel_rfl
theorem gv:eC qP 76 (.agg #[.int .i64 0,.int .i64 0]):=by unfold eC;kernel_rfl
theorem eu:fldB qP 76 0 0:=by kernel_rfl
theorem fw:fldB qP 76 1 1:=by kernel_rfl
theorem qm:uu qP 76 [(0,1),(1,1)]:=by kernel_rfl
theorem lg:szB qP 84 false 1:=by kernel_rfl
theorem Kg:eC qP 84 (.pointer none):=by unfold eC;kernel_rfl
theorem oE:szB qP 88 true 5:=by kernel_rfl
theorem Bq:eC qP 88 (.agg #[.int .i64 0,.int .i64 0,.int .i64 0,.int .i64 0,.int .i64 0]):=by unfold eC;kernel_rfl
theorem fT:fldB qP 88 0 0:=by kernel_rfl
theorem LF:uu qP 88 [(0,5)]:=by kernel_rfl
theorem TX:szB qP 89 false 1:=by kernel_rfl
theorem Uh:slB qP 89 202 61:=by kernel_rfl
theorem at4:eC qP 91 (.agg #[.int .i64 0,.int .i64 0,.int .i64 0,.int .i64 0,.int .i64 0,.slice none 0 0,.int .i64 0,.int .i64 0,.int .i64 0,.int .i64 0,.int .i64 0,.int .i64 0,.int .i64 0,.int .i64 0,.int .i64 0,.int .i64 0,.int .i64 0,.slice none 0 0]):=by unfold eC;kernel_rfl
theorem qZ:fldB qP 91 0 0:=by kernel_rfl
theorem qY:fldB qP 91 1 5:=by kernel_rfl
theorem oh:fldB qP 91 2 16:=by kernel_rfl
theorem AI:fldB qP 91 3 17:=by kernel_rfl
theorem av5:uu qP 91 [(0,5),(5,11),(16,1),(17,1)]:=by kernel_rfl
theorem ab2:szB qP 92 false 1:=by kernel_rfl
theorem Xb:eC qP 92 (.slice none 0 0):=by unfold eC;kernel_rfl
theorem Ug:slB qP 92 104 1:=by kernel_rfl
theorem ai0:tV qP 92:=by kernel_rfl
theorem ID:szB qP 97 false 1:=by kernel_rfl
theorem SC:vH qP 97 .u64:=by kernel_rfl
theorem ab5:szB qP 104 false 1:=by kernel_rfl
theorem TA:Ey qP 104 24:=by kernel_rfl
theorem Xj:eC qP 104 (.slice none 0 0):=by unfold eC;kernel_rfl
theorem uX:slB qP 104 108 2:=by kernel_rfl
theorem MD:tV qP 104:=by kernel_rfl
theorem fW:szB qP 108 true 2:=by kernel_rfl
theorem Tz:Ey qP 108 16:=by kernel_rfl
theorem jW:eC qP 108 (.agg #[.int .i64 0,.int .i64 0]):=by unfold eC;kernel_rfl
theorem rj:fldB qP 108 0 0:=by kernel_rfl
theorem ri:fldB qP 108 1 1:=by kernel_rfl
theorem Sp:uu qP 108 [(0,1),(1,1)]:=by kernel_rfl
theorem at3:szB qP 118 false 1:=by kernel_rfl
theorem xD:slB qP 118 5 1:=by kernel_rfl
theorem RL:tV qP 118:=by kernel_rfl
theorem xV:szB qP 120 false 1:=by kernel_rfl
theorem Ty:Ey qP 120 4:=by kernel_rfl
theorem Kj:eC qP 120 (.float .f32 0):=by unfold eC;kernel_rfl
theorem ik:fltB qP 120 .f32:=by kernel_rfl
theorem am4:vH qP 127 .i16:=by kernel_rfl
theorem mh:szB qP 131 true 6:=by kernel_rfl
theorem xO:eC qP 131 (.agg #[.int .i64 0,.int .i64 0,.int .i64 0,.int .i64 0,.int .i64 0,.slice none 0 0]):=by unfold eC;kernel_rfl
theorem lG:fldB qP 131 0 0:=by kernel_rfl
theorem rh:fldB qP 131 1 5:=by kernel_rfl
theorem LI:uu qP 131 [(0,5),(5,1)]:=by kernel_rfl
theorem ac1:slB qP 140 200 8:=by kernel_rfl
theorem Sb:szB qP 142 true 13:=by kernel_rfl
theorem R4:eC qP 142 (.agg #[.slice none 0 0,.int .i64 0,.int .i64 0,.int .i64 0,.int .i64 0,.int .i64 0,.int .i64 0,.int .i64 0,.int .i64 0,.int .i64 0,.int .i64 0,.slice none 0 0,.slice none 0 0]):=by unfold eC;kernel_rfl
theorem Rk:(match qP.underlying 142 with|some (.struct fs)=>(fs[0]?).map (λfd=>(fd.offset,fd.type))|_=>none)=some (0,28):=by kernel_rfl
theorem ae7:uu qP 142 [(0,11),(11,1),(12,1)]:=by kernel_rfl
theorem oQ:szB qP 146 true 2:=by kernel_rfl
theorem Bt:eC qP 146 (.agg #[.int .i64 0,.int .i64 0]):=by unfold eC;kernel_rfl
theorem kF:arB qP 146 2 3 1:=by kernel_rfl
theorem KE:szB qP 151 false 1:=by kernel_rfl
theorem aL4:szB qP 156 false 1:=by kernel_rfl
theorem sQ:fltB qP 156 .f64:=by kernel_rfl
theorem BE:szB qP 161 true 61:=by kernel_rfl
theorem Ki:eC qP 161 (.agg #[.complex .f32 0 0,.complex .f32 0 0,.complex .f32 0 0,.complex .f32 0 0,.complex .f32 0 0,.complex .f32 0 0,.complex .f32 0 0,.complex .f32 0 0,.complex .f32 0 0,.complex .f32 0 0,.complex .f32 0 0,.complex .f32 0 0,.complex .f32 0 0,.complex .f32 0 0,.complex .f32 0 0,.complex .f32 0 0,.complex .f32 0 0,.complex .f32 0 0,.complex .f32 0 0,.complex .f32 0 0,.complex .f32 0 0,.complex .f32 0 0,.complex .f32 0 0,.complex .f32 0 0,.complex .f32 0 0,.complex .f32 0 0,.complex .f32 0 0,.complex .f32 0 0,.complex .f32 0 0,.complex .f32 0 0,.complex .f32 0 0,.complex .f32 0 0,.complex .f32 0 0,.complex .f32 0 0,.complex .f32 0 0,.complex .f32 0 0,.complex .f32 0 0,.complex .f32 0 0,.complex .f32 0 0,.complex .f32 0 0,.complex .f32 0 0,.complex .f32 0 0,.complex .f32 0 0,.complex .f32 0 0,.complex .f32 0 0,.complex .f32 0 0,.complex .f32 0 0,.complex .f32 0 0,.complex .f32 0 0,.complex .f32 0 0,.complex .f32 0 0,.complex .f32 0 0,.complex .f32 0 0,.complex .f32 0 0,.complex .f32 0 0,.complex .f32 0 0,.complex .f32 0 0,.complex .f32 0 0,.complex .f32 0 0,.complex .f32 0 0,.complex .f32 0 0]):=by unfold eC;kernel_rfl
theorem as5:arB qP 161 61 151 1:=by kernel_rfl
theorem KD:szB qP 165 true 64:=by kernel_rfl
theorem OB:arB qP 165 64 120 1:=by kernel_rfl
theorem MF:vH qP 173 .u64:=by kernel_rfl
theorem aT2:szB qP 188 true 2:=by kernel_rfl
theorem aS6:eC qP 188 (.agg #[.float .f64 0,.float .f64 0]):=by unfold eC;kernel_rfl
theorem aH5:arB qP 188 2 156 1:=by kernel_rfl
theorem R3:eC qP 200 (.agg #[.int .i64 0,.int .i64 0,.int .i64 0,.int .i64 0,.int .i64 0,.int .i64 0,.int .i64 0,.int .i64 0]):=by unfold eC;kernel_rfl
theorem ae6:uu qP 200 [(0,1),(1,2),(3,2),(5,1),(6,1),(7,1)]:=by kernel_rfl
theorem as1:Ey qP 202 488:=by kernel_rfl
theorem R2:eC qP 202 (.agg #[.complex .f32 0 0,.complex .f32 0 0,.complex .f32 0 0,.complex .f32 0 0,.complex .f32 0 0,.complex .f32 0 0,.complex .f32 0 0,.complex .f32 0 0,.complex .f32 0 0,.complex .f32 0 0,.complex .f32 0 0,.complex .f32 0 0,.complex .f32 0 0,.complex .f32 0 0,.complex .f32 0 0,.complex .f32 0 0,.complex .f32 0 0,.complex .f32 0 0,.complex .f32 0 0,.complex .f32 0 0,.complex .f32 0 0,.complex .f32 0 0,.complex .f32 0 0,.complex .f32 0 0,.complex .f32 0 0,.complex .f32 0 0,.complex .f32 0 0,.complex .f32 0 0,.complex .f32 0 0,.complex .f32 0 0,.complex .f32 0 0,.complex .f32 0 0,.complex .f32 0 0,.complex .f32 0 0,.complex .f32 0 0,.complex .f32 0 0,.complex .f32 0 0,.complex .f32 0 0,.complex .f32 0 0,.complex .f32 0 0,.complex .f32 0 0,.complex .f32 0 0,.complex .f32 0 0,.complex .f32 0 0,.complex .f32 0 0,.complex .f32 0 0,.complex .f32 0 0,.complex .f32 0 0,.complex .f32 0 0,.complex .f32 0 0,.complex .f32 0 0,.complex .f32 0 0,.complex .f32 0 0,.complex .f32 0 0,.complex .f32 0 0,.complex .f32 0 0,.complex .f32 0 0,.complex .f32 0 0,.complex .f32 0 0,.complex .f32 0 0,.complex .f32 0 0]):=by unfold eC;kernel_rfl
theorem TE:arB qP 202 61 151 1:=by kernel_rfl
theorem GV:szB qP 210 true 64:=by kernel_rfl
theorem RY:eC qP 210 (.agg #[.int .i64 0,.int .i64 0,.int .i64 0,.int .i64 0,.int .i64 0,.int .i64 0,.int .i64 0,.int .i64 0,.int .i64 0,.int .i64 0,.int .i64 0,.int .i64 0,.int .i64 0,.int .i64 0,.int .i64 0,.int .i64 0,.int .i64 0,.int .i64 0,.int .i64 0,.int .i64 0,.int .i64 0,.int .i64 0,.int .i64 0,.int .i64 0,.int .i64 0,.int .i64 0,.int .i64 0,.int .i64 0,.int .i64 0,.int .i64 0,.int .i64 0,.int .i64 0,.int .i64 0,.int .i64 0,.int .i64 0,.int .i64 0,.int .i64 0,.int .i64 0,.int .i64 0,.int .i64 0,.int .i64 0,.int .i64 0,.int .i64 0,.int .i64 0,.int .i64 0,.int .i64 0,.int .i64 0,.int .i64 0,.int .i64 0,.int .i64 0,.int .i64 0,.int .i64 0,.int .i64 0,.int .i64 0,.int .i64 0,.int .i64 0,.int .i64 0,.int .i64 0,.int .i64 0,.int .i64 0,.int .i64 0,.int .i64 0,.int .i64 0,.int .i64 0]):=by unfold eC;kernel_rfl
theorem TC:arB qP 210 64 3 1:=by kernel_rfl
theorem mJ:szB qP 232 true 11:=by kernel_rfl
theorem Bs:eC qP 232 (.agg #[.slice none 0 0,.int .i64 0,.int .i64 0,.int .i64 0,.int .i64 0,.int .i64 0,.int .i64 0,.int .i64 0,.int .i64 0,.int .i64 0,.int .i64 0]):=by unfold eC;kernel_rfl
theorem BY:fldB qP 232 0 0:=by kernel_rfl
theorem ae5:uu qP 232 [(0,11)]:=by kernel_rfl
theorem Sa:szB qP 243 true 4:=by kernel_rfl
theorem Xg:eC qP 243 (.agg #[.int .i64 0,.int .i64 0,.int .i64 0,.int .i64 0]):=by unfold eC;kernel_rfl
theorem D4:arB qP 243 4 3 1:=by kernel_rfl
theorem oT:slB qP 248 43 1:=by kernel_rfl
theorem FK:tV qP 248:=by kernel_rfl
theorem Xf:eC qP 253 (.agg #[.int .i64 0,.int .i64 0,.int .i64 0,.int .i64 0,.int .i64 0,.int .i64 0]):=by unfold eC;kernel_rfl
theorem nx:fldB qP 253 0 0:=by kernel_rfl
theorem nu:fldB qP 253 1 1:=by kernel_rfl
theorem nt:fldB qP 253 2 2:=by kernel_rfl
theorem nq:fldB qP 253 3 3:=by kernel_rfl
theorem np:fldB qP 253 4 4:=by kernel_rfl
theorem nj:fldB qP 253 5 5:=by kernel_rfl
theorem ae3:uu qP 253 [(0,1),(1,1),(2,1),(3,1),(4,1),(5,1)]:=by kernel_rfl
theorem gh:szB qP 255 true 6:=by kernel_rfl
theorem s7:eC qP 255 (.agg #[.int .i64 0,.int .i64 0,.int .i64 0,.int .i64 0,.int .i64 0,.int .i64 0]):=by unfold eC;kernel_rfl
theorem pZ:fldB qP 255 0 0:=by kernel_rfl
theorem LH:uu qP 255 [(0,6)]:=by kernel_rfl
theorem te:szB qP 270 true 2:=by kernel_rfl
theorem GF:eC qP 270 (.agg #[.int .u64 0,.int .u64 0]):=by unfold eC;kernel_rfl
theorem ra:fldB qP 270 0 0:=by kernel_rfl
theorem Dc:fldB qP 270 1 1:=by kernel_rfl
theorem ae2:uu qP 270 [(0,1),(1,1)]:=by kernel_rfl
theorem VH:EqK qP .u64 270 2:=by
 intro xs ys hx hy w
 match xs,ys,hx,hy with
 | [a0,a1],[b0,b1],_,_=>
  refine⟨λx y=>run_eqGuard_agg w .eql 270 x y _ _ (by kernel_rfl),λx y=>run_eqGuard_agg w .neq 270 x y _ _ (by kernel_rfl),?_⟩;have hf:(qP.fieldsOf 270).toList=[⟨ "high",97,0,false,"","couplant/ray",0⟩,⟨ "low",97,1,false,"","couplant/ray",8⟩]:=by kernel_rfl
  rw[show (10000:Nat)=9998+1+1 from rfl,run_equalIn_struct w (9998+1) 270 _ _ (by kernel_rfl) (by kernel_rfl),hf];have u97:=(qU underlying97);simp[Op.eqFields,part,isAgg,run_underlying u97,kW,run_equalIn_int,u97,Result.andThen]
  (repeat' split)<;>simp_all
end Go.Proofs.YthcfokccjljnpaaGreat.Am
namespace Go.Proofs.YthcfokccjljnpaaGreat.Am.M
open Go Go.Proofs.Tryz
def iC(x:Int):List D:=[.v (.int .i64 x)]
def dP(lo n hi:Int):Bool:=decide (lo<=n)&&decide (n<=hi)
def firstE:List Int->Int
 | []=>0
 | x::xs=>if x=0 then firstE xs else x
theorem lX{a b A B:Int}(h1 : -A<=a)(h2:a<=A)(h3 : -B<=b)(h4:b<=B) : -(A*B)<=a*b/\a*b<=A*B:=by
 have hA:0<=A:=by omega
 have hB:0<=B:=by omega
 have k1:0<=(A - a)*(B+b):=X2 (by omega) (by omega);have k2:0<=(A+a)*(B - b):=X2 (by omega) (by omega);have k3:0<=(A - a)*(B - b):=X2 (by omega) (by omega);have k4:0<=(A+a)*(B+b):=X2 (by omega) (by omega);rw[Int.sub_mul,ZX,ZX]at k1;rw[Int.add_mul,Int.mul_sub,Int.mul_sub]at k2;rw[Int.sub_mul,Int.mul_sub,Int.mul_sub]at k3;rw[Int.add_mul,ZX,ZX]at k4;generalize A*B=AB at *;generalize A*b=Ab at *;generalize a*B=aB at *;generalize a*b=ab at *;omega
def Sm(n:Int):Prop:=-4611686018427387904<=n/\n<=4611686018427387904
theorem GU{a b:Int}(h:Sm a)(hb:0<b):Sm (a.tdiv b):=by
 have⟨h1,h2⟩:=h;have J:=Int.mul_tdiv_add_tmod a b;rcases(show a<0\/0<=a by omega) with ha|ha
 ·have e:a.tdiv b = -((-a).tdiv b):=by rw[Int.neg_tdiv,Int.neg_neg]
  have e2:(-a).tdiv b=(-a) / b:=Y2 (by omega);have h3:0<=(-a) / b:=Int.ediv_nonneg (by omega) (by omega);have h4:(-a) / b<=-a:=Int.ediv_le_self _ (by omega);rw[e,e2];constructor<;>omega
 ·have e2:a.tdiv b=a / b:=Y2 ha
  have h3:0<=a / b:=Int.ediv_nonneg ha (by omega);have h4:a / b<=a:=Int.ediv_le_self _ ha;rw[e2];constructor<;>omega
theorem yV{n b:Int}(hb:0<b):(if n.tmod b<0 then n.tdiv b - 1 else n.tdiv b)=n / b:=by
 have h1:=Int.mul_tdiv_add_tmod n b;have h2:=Int.mul_ediv_add_emod n b;have h3:=Int.emod_nonneg n (by omega:b≠0);have h4:=Int.emod_lt_of_pos n hb
 have h5 : -b<n.tmod b:=by
  rcases(show n<0\/0<=n by omega) with hn|hn
  ·have e:n.tmod b = -((-n).tmod b):=by rw[Int.neg_tmod,Int.neg_neg]
   rw[e,Int.tmod_eq_emod_of_nonneg (by omega)];have:=Int.emod_lt_of_pos (-n) hb;omega
  ·rw[Int.tmod_eq_emod_of_nonneg hn]
   have:=Int.emod_nonneg n (by omega:b≠0);omega
 have h6:n.tmod b<b:=Int.tmod_lt_of_pos n hb
 have key:∀q r q' r':Int,b*q+r=n->b*q'+r'=n->0<=r->r<b->0<=r'->r'<b->q=q':=by
  intro q r q' r' e1 e2 a1 a2 a3 a4;rcases Int.lt_trichotomy q q' with h|h|h
  ·have:b*(q+1)<=b*q':=Zj (by omega) (by omega)
   rw[ZX]at this;omega
  ·exact h
  ·have:b*(q'+1)<=b*q:=Zj (by omega) (by omega)
   rw[ZX]at this;omega
 split
 ·exact key (n.tdiv b - 1) (n.tmod b+b) _ _ (by rw[Int.mul_sub];omega) h2 (by omega) (by omega) h3 h4
 ·exact key (n.tdiv b) (n.tmod b) _ _ h1 h2 (by omega) (by omega) h3 h4
def wq(x:Int × Int):List D:=[.v (.int .i64 x.1),.v (.int .i64 x.2)]
theorem Rt{a b:Int}(h:Sm a)(hb:0<b) : -4611686018427387904<=a / b/\a / b<=4611686018427387904:=by
 have⟨h1,h2⟩:=h;refine⟨?_,?_⟩
 ·rw[Int.le_ediv_iff_mul_le hb]
  have:b*1<=b*4611686018427387904:=Zj (by omega) (by omega);rw[Int.mul_comm]at this;omega
 ·rcases(show a<0\/0<=a by omega) with ha|ha
  ·have:=Int.ediv_neg_of_neg_of_pos ha hb;omega
  ·have:=Int.ediv_le_self b ha;omega
def pb(n b:Int):Int:=-((-n) / b)
def idxOf{α:Type}(f:α->Bool):Nat->List α->Int
 | _,[]=>-1
 | i,x::xs=>if f x=true then (i:Int) else idxOf f (i+1) xs
def rb(n:Int):Nat->Int->Int
 | 0,r=>r
 | k+1,r=>rb n k (if (r+2 ^ k)*(r+2 ^ k)<=n then r+2 ^ k else r)
def gk(n:Int):Int:=rb n 31 0
theorem zM{n:Int}:∀{k:Nat} {r:Int},0<=r->r*r<=n->n<(r+2 ^ k)*(r+2 ^ k)->0<=rb n k r/\rb n k r*rb n k r<=n/\n<(rb n k r+1)*(rb n k r+1)/\rb n k r<r+2 ^ k
 | 0,r,h0,h1,h2=>⟨h0,h1,(show n<(r+1)*(r+1) by simpa using h2),(show r<r+2 ^ 0 by omega)⟩
 | k+1,r,h0,h1,h2=>by
  have hp:(0:Int)<2 ^ k:=Int.pow_pos (by omega);have e:(2:Int) ^ (k+1)=2 ^ k+2 ^ k:=by rw[Int.pow_succ];omega
  unfold rb
  split
  ·rename_i h
   obtain⟨a,b,c,d⟩:=zM (k:=k) (r:=r+2 ^ k) (by omega) h (by rw[e]at h2;rw[Int.add_assoc];exact h2);exact⟨a,b,c,by omega⟩
  ·rename_i h
   obtain⟨a,b,c,d⟩:=zM (k:=k) (r:=r) h0 h1 (by omega);exact⟨a,b,c,by omega⟩
theorem lq{n:Int}(h0:0<=n)(h1:n<4611686018427387904):0<=gk n/\gk n*gk n<=n/\n<(gk n+1)*(gk n+1)/\gk n<2147483648:=by
 have:=zM (n:=n) (k:=31) (r:=0) (by omega) (by omega) (by simpa using h1);simpa [gk] using this
theorem Sc{a b:Int}(h:0<=b)(hl:a*a<b*b):a<b:=by
 by_cases h1:a<b
 ·exact h1
 ·have h2:=Int.mul_le_mul (show b<=a by omega) (show b<=a by omega) h (by omega)
  omega
theorem ab8{a b:Int}(h:0<=a)(hl:a<=b):a*a<=b*b:=Int.mul_le_mul hl hl h (by omega)
theorem BW{n r:Int}(h0:0<=n)(h1:n<4611686018427387904)(Y:0<=r):n<r*r↔gk n<r:=by
 obtain⟨a,b,c,d⟩:=lq h0 h1;constructor
 ·intro h;exact Sc Y (by omega)
 ·intro h
  have:=ab8 (show 0<=gk n+1 by omega) (show gk n+1<=r by omega);omega
def bsr(f:Int->Bool):Nat->Int->Int->Int
 | 0,i,_=>i
 | k+1,i,j=>if i<j then (if f ((i+j) / 2)=true then bsr f k i ((i+j) / 2) else bsr f k ((i+j) / 2+1) j) else i
def BI(f:Int->Bool)(n:Int):Int:=bsr f 62 0 n
theorem DL{f:Int->Bool}{k:Nat}{i j:Int}(h:i<j):bsr f (k+1) i j=if f ((i+j) / 2)=true then bsr f k i ((i+j) / 2) else bsr f k ((i+j) / 2+1) j:=by rw[bsr,Xu h]
theorem DK{f:Int->Bool}{k:Nat}{i j:Int}(h:¬i<j):bsr f k i j=i:=by
 cases k with
 | zero=>rfl
 | succ k=>rw[bsr,Xr h]
theorem Gg{f:Int->Bool}:∀{k:Nat} {i j:Int},i<=j->i<=bsr f k i j/\bsr f k i j<=j
 | 0,i,j,h=>⟨Int.le_refl _,h⟩
 | k+1,i,j,h=>by
  unfold bsr
  split
  ·split
   ·have:=Gg (f:=f) (k:=k) (i:=i) (j:=(i+j) / 2) (by omega);omega
   ·have:=Gg (f:=f) (k:=k) (i:=(i+j) / 2+1) (j:=j) (by omega);omega
  ·omega
theorem Gh{f:Int->Bool}{m:Int}:∀{k:Nat} {i j:Int},i<=m->m<=j->j - i<2 ^ k->(∀h,i<=h->h<m->f h=false)->(∀h,m<=h->h<j->f h=true)->bsr f k i j=m
 | 0,i,j,h1,h2,h3,_,_=>by simp at h3;unfold bsr;omega
 | k+1,i,j,h1,h2,h3,h4,h5=>by
  have e:(2:Int) ^ (k+1)=2 ^ k+2 ^ k:=by rw[Int.pow_succ];omega
  unfold bsr;by_cases SV:i<j
  ·rw[Xu SV]
   cases hf:f ((i+j) / 2) with
   | true=>
    rw[Xu E]
    have hm:m<=(i+j) / 2:=by
     by_cases q:m<=(i+j) / 2
     ·exact q
     ·rw[h4 _ (by omega) (by omega)]at hf;cases hf
    exact Gh h1 hm (by omega) h4 (λh a b=>h5 h a (by omega))
   | false=>
    rw[Xr (by simp)]
    have hm:(i+j) / 2<m:=by
     by_cases q:(i+j) / 2<m
     ·exact q
     ·rw[h5 _ (by omega) (by omega)]at hf;cases hf
    exact Gh (by omega) h2 (by omega) (λh a b=>h4 h (by omega) b) h5
  ·rw[Xr SV];omega
theorem PH{f:Int->Bool}{m n:Int}(h1:0<=m)(h2:m<=n)(h3:n<4611686018427387904)(h4:∀h,0<=h->h<m->f h=false)(h5:∀h,m<=h->h<n->f h=true):BI f n=m:=
 Gh h1 h2 (by simpa using h3) h4 h5
theorem IT{n:Int}(h0:0<=n)(h1:n<4611686018427387904):BI (λr=>decide (n<r*r)) 2147483648 - 1=gk n:=by
 obtain⟨a,b,c,d⟩:=lq h0 h1
 have:BI (λr=>decide (n<r*r)) 2147483648=gk n+1:=PH (by omega) (by omega) (by omega)
  (λh q1 q2=>XV λq=>by have:=(BW h0 h1 q1).1 q;omega) (λh q1 q2=>ZS ((BW h0 h1 (by omega)).2 (by omega)))
 omega
abbrev Rg:=Int × Int
def oI(x z:Int):Rg:=(gk (1000000*(x*x+z*z)),if gk (1000000*(x*x+z*z))*gk (1000000*(x*x+z*z))<1000000*(x*x+z*z) then gk (1000000*(x*x+z*z))+1 else gk (1000000*(x*x+z*z)))
def sf(r:Rg)(v:Int):Rg:=(r.1*10000 / v,pb (r.2*10000) v)
structure ue where
 x1:Int
 h1:Int
 v1:Int
 x2:Int
 h2:Int
 v2:Int
def xJ(x:ue):List D:=[.v (.int .i64 x.x1),.v (.int .i64 x.h1),.v (.int .i64 x.v1),.v (.int .i64 x.x2),.v (.int .i64 x.h2),.v (.int .i64 x.v2)]
structure nH(x:ue):Prop where
 a1 : -100000<=x.x1
 a2:x.x1<=100000
 b1 : -100000<=x.x2
 b2:x.x2<=100000
 c1:1<=x.h1
 c2:x.h1<=100000
 d1:1<=x.h2
 d2:x.h2<=100000
 e1:500<=x.v1
 e2:x.v1<=10000
 f1:500<=x.v2
 f2:x.v2<=10000
def mz(a b:Int):Int:=if a=b then 0 else if a<b then -1 else 1
def tT(x:ue)(at_:Int):Int:=((at_ - x.x1)*x.v2*(at_ - x.x1)*x.v2)*((x.x2 - at_)*(x.x2 - at_)+x.h2*x.h2)
def tP(x:ue)(at_:Int):Int:=((x.x2 - at_)*x.v1*(x.x2 - at_)*x.v1)*((at_ - x.x1)*(at_ - x.x1)+x.h1*x.h1)
def fZ(x:ue)(at_:Int):Int:=if x.x2<x.x1 then -(mz (tT x at_) (tP x at_)) else mz (tT x at_) (tP x at_)
def je(x:ue):Int:=min x.x1 x.x2
def ub(x:ue):Int:=max x.x1 x.x2
def cR(x:ue):Int:=je x - 1+BI (λn=>decide (0<fZ x (je x+n))) (ub x - je x+1)
def um(x:ue)(at_:Int):Rg:=((sf (oI (at_ - x.x1) x.h1) x.v1).1+(sf (oI (x.x2 - at_) x.h2) x.v2).1,(sf (oI (at_ - x.x1) x.h1) x.v1).2+(sf (oI (x.x2 - at_) x.h2) x.v2).2)
def jz(x:ue):Rg:=if dP (je x) (cR x+1) (ub x)=true then (min (um x (cR x)).1 (um x (cR x+1)).1,min (um x (cR x)).2 (um x (cR x+1)).2) else um x (cR x)
def jy(x:ue):Rg:=(max 0 ((jz x).1 - pb 10000000 (x.v1*x.h1) - pb 10000000 (x.v2*x.h2)),(jz x).2)
theorem PX{a b:Int}:0<mz a b↔b<a:=by
 unfold mz;by_cases h:a=b
 ·rw[Xu h];omega
 ·rw[Xr h]
  by_cases h':a<b
  ·rw[Xu h'];omega
  ·rw[Xr h'];omega
theorem PY{a b:Int}:mz a b<0↔a<b:=by
 unfold mz;by_cases h:a=b
 ·rw[Xu h];omega
 ·rw[Xr h]
  by_cases h':a<b
  ·rw[Xu h'];omega
  ·rw[Xr h'];omega
theorem K1{x:ue}(hx:nH x):¬0<fZ x (je x):=by
 intro h;unfold fZ je at h;by_cases bH:x.x2<x.x1
 ·rw[Xu bH,show min x.x1 x.x2=x.x2 by omega]at h
  have h1:tT x x.x2<tP x x.x2:=PY.1 (by omega);have e2:tP x x.x2=0:=by unfold tP;rw[ZY];simp
  have e1:0<=tT x x.x2:=by
   unfold tT;refine X2 ?_ ?_
   ·have:(x.x2 - x.x1)*x.v2*(x.x2 - x.x1)*x.v2=((x.x1 - x.x2)*x.v2)*((x.x1 - x.x2)*x.v2):=by grind
    rw[this];have:=X2 (show 0<=x.x1 - x.x2 by omega) (show 0<=x.v2 by have:=hx.f1;omega);exact X2 this this
   ·have:=X2 (show 0<=x.h2 by have:=hx.d1;omega) (show 0<=x.h2 by have:=hx.d1;omega)
    rw[ZY];omega
  omega
 ·rw[Xr bH,show min x.x1 x.x2=x.x1 by omega]at h
  have h1:=PX.1 h;have e1:tT x x.x1=0:=by unfold tT;rw[ZY];simp
  have e2:0<=tP x x.x1:=by
   unfold tP;refine X2 ?_ ?_
   ·have:(x.x2 - x.x1)*x.v1*(x.x2 - x.x1)*x.v1=((x.x2 - x.x1)*x.v1)*((x.x2 - x.x1)*x.v1):=by grind
    rw[this];have:=X2 (show 0<=x.x2 - x.x1 by omega) (show 0<=x.v1 by have:=hx.e1;omega);exact X2 this this
   ·have:=X2 (show 0<=x.h1 by have:=hx.c1;omega) (show 0<=x.h1 by have:=hx.c1;omega)
    rw[ZY];omega
  omega
theorem wL{f:Int->Bool}{i0 j0:Int}:∀{k:Nat} {i j:Int},i<=j->j - i<2 ^ k->(i=i0\/f (i - 1)=false)->(j=j0\/f j=true)->(bsr f k i j=i0\/f (bsr f k i j - 1)=false)/\(bsr f k i j=j0\/f (bsr f k i j)=true)
 | 0,i,j,h,h3,h1,h2=>by
  simp at h3;have:i=j:=by omega
  subst this;exact⟨h1,h2⟩
 | k+1,i,j,h,h3,h1,h2=>by
  have e:(2:Int) ^ (k+1)=2 ^ k+2 ^ k:=by rw[Int.pow_succ];omega
  by_cases SV:i<j
  ·rw[DL SV]
   cases hf:f ((i+j) / 2) with
   | true=>rw[Xu E];exact wL (by omega) (by omega) h1 (.inr hf)
   | false=>rw[Xr (by simp)];exact wL (by omega) (by omega) (.inr (by rw[show (i+j) / 2+1 - 1=(i+j) / 2 by omega];exact hf)) h2
  ·rw[DK SV]
   have:i=j:=by omega
   subst this;exact⟨h1,h2⟩
theorem pP{x:ue}(hx:nH x):je x<=cR x/\cR x<=ub x/\¬0<fZ x (cR x)/\(cR x=ub x\/0<fZ x (cR x+1)):=by
 have hb:je x<=ub x/\-100000<=je x/\ub x<=100000:=by
  obtain⟨a1,a2,b1,b2,_⟩:=hx;unfold je ub;omega
 have h0:=K1 hx;have h1:=Gg (f:=λn=>decide (0<fZ x (je x+n))) (k:=62) (i:=0) (j:=ub x - je x+1) (by omega);have h2:=wL (f:=λn=>decide (0<fZ x (je x+n))) (i0:=0) (j0:=ub x - je x+1) (k:=62) (i:=0) (j:=ub x - je x+1) (by omega) (by omega) (.inl E) (.inl E);have e:bsr (λn=>decide (0<fZ x (je x+n))) 62 0 (ub x - je x+1)=cR x - (je x - 1):=by unfold cR BI;omega
 rw[e]at h1 h2;simp only[XW,YP]at h2;have⟨h3,h4⟩:=h2
 have vL:je x<=cR x:=by
  by_cases q:je x<=cR x
  ·exact q
  ·exfalso
   have q2:cR x=je x - 1:=by omega
   rcases h4 with h4|h4
   ·omega
   ·rw[show je x+(cR x - (je x - 1))=je x by omega]at h4;exact h0 h4
 refine⟨vL,by omega,?_,?_⟩
 ·rcases h3 with h3|h3
  ·omega
  ·rwa [show je x+(cR x - (je x - 1) - 1)=cR x by omega]at h3
 ·rcases h4 with h4|h4
  ·left;omega
  ·right;rwa [show je x+(cR x - (je x - 1))=cR x+1 by omega]at h4
structure Fm(f:Ieee.Format)(p L I:Nat):Prop where
 fb:f.fractionBits=p
 lp:f.leastPlace = -(L:Int)
 pl:p<=L
 li:L+2<=I
 inf:f.infRung=I*2 ^ p
 sw:f.signWeight=(I+1)*2 ^ p
 bn:f.binade=2 ^ p
theorem H3:Fm Ieee.single 23 149 255:=⟨rfl,by decide,by decide,by decide,by decide,by decide,by decide⟩
theorem fmD:Fm Ieee.double 52 1074 2047:=⟨rfl,by decide,by decide,by decide,by decide +kernel,by decide +kernel,by decide⟩
theorem qB{c d:Nat}(hc:c≠0):(c*2 ^ d).log2=c.log2+d:=by
 induction d with
 | zero=>simp
 | succ d ih=>
  rw[ZC,<-YU,YW _ 2,Nat.log2_two_mul (by have:=Yj d;exact ZB hc (by omega)),ih];omega
theorem ry{neg:Bool}{c d:Nat}(hc:c≠0):Ieee.Toward.even.cut neg (c*2 ^ d) d=c:=by
 have hl:=qB (d:=d) hc;have hm:min d ((c*2 ^ d).log2+2)=d:=by rw[hl];omega
 have hp:=Yj d;unfold Ieee.Toward.cut;simp only[hm,Nat.one_shiftLeft,Nat.mul_div_cancel _ hp,Nat.mul_mod_left];have:(2 ^ d==2*0)=false:=by simp
 simp
theorem N5{neg:Bool}{c d:Nat}:Ieee.Toward.zero.cut neg (c*2 ^ d) d=c:=by
 have hp:=Yj d;unfold Ieee.Toward.cut;by_cases hc:c=0
 ·subst hc;simp
 have hl:=qB (d:=d) hc;have hm:min d ((c*2 ^ d).log2+2)=d:=by rw[hl];omega
 simp only[hm,Nat.one_shiftLeft,Nat.mul_div_cancel _ hp];simp
section
variable{f:Ieee.Format}{p L I:Nat}
theorem pF{n:Nat}(hn:0<n)(bH:n<2 ^ (p+1)):n.log2<=p:=by
 have:=(Nat.log2_lt (by omega)).2 bH;omega
theorem pD(h:Fm f p L I)(neg:Bool){n:Nat}(K:Nat)(hn:0<n)(bH:n<2 ^ (p+1)) :
  f.nearest neg (n*2 ^ K) (-(K:Int))=f.word neg (min ((L+n.log2 - p)*2 ^ p+n*2 ^ (p - n.log2)) (I*2 ^ p)):=by
 have hl:=qB (d:=K) (show n≠0 by omega);have hle:=pF hn bH;have hK:=Yj K;have QV:=h.pl;unfold Ieee.Format.nearest;rw[Xr (ZB (by omega) (by omega)),hl,h.fb,h.lp,h.bn,h.inf];simp only;have MV:max (-(K:Int)+((n.log2+K:Nat):Int) - (p:Int)) (-(L:Int))=(n.log2:Int) - p:=by omega
 rw[MV];congr 2;have e1:((n.log2:Int) - p - -(L:Int)).toNat=L+n.log2 - p:=by omega
 rw[e1];congr 1;by_cases hk:K<=p - n.log2
 ·have e2:(-(K:Int) - ((n.log2:Int) - p)).toNat=p - n.log2 - K:=by omega
  have e3:((n.log2:Int) - p - -(K:Int)).toNat=0:=by omega
  rw[e2,e3,Y9,YU,<-YN,show K+(p - n.log2 - K)=p - n.log2 by omega];have:=ry (neg:=neg) (c:=n*2 ^ (p - n.log2)) (d:=0) (ZB (by omega) (by have:=Yj (p - n.log2);omega));rwa [Zg,YA]at this
 ·have e2:(-(K:Int) - ((n.log2:Int) - p)).toNat=0:=by omega
  have e3:((n.log2:Int) - p - -(K:Int)).toNat=K - (p - n.log2):=by omega
  rw[e2,e3,Y9,Zg,YA];have e4:n*2 ^ K=n*2 ^ (p - n.log2)*2 ^ (K - (p - n.log2)):=by rw[YU,<-YN,show p - n.log2+(K - (p - n.log2))=K by omega]
  rw[e4];exact ry (ZB (by omega) (by have:=Yj (p - n.log2);omega))
theorem fR(neg:Bool)(e:Int):f.nearest neg 0 e=f.word neg 0:=by unfold Ieee.Format.nearest;rw[Xu E]
theorem xo(h:Fm f p L I)(neg:Bool){n:Nat}(K:Nat)(bH:n<2 ^ (p+1)):f.nearest neg (n*2 ^ K) (-(K:Int))=f.nearest neg n 0:=by
 by_cases hn:n=0
 ·subst hn;rw[ZV,fR,fR]
 ·rw[pD h neg K (by omega) bH]
  have:=pD h neg 0 (n:=n) (by omega) bH;rw[Zg,YA]at this;exact this.symm
theorem yn(h:Fm f p L I)(neg:Bool){u' r:Nat}(hE:u'+1<I)(Y:r<2 ^ p):f.read (f.word neg (u'*2 ^ p+(2 ^ p+r)))=.number neg (2 ^ p+r) ((u':Int) - L):=by
 have hp:=Yj p
 have bH:u'*2 ^ p+(2 ^ p+r)<I*2 ^ p:=by
  have:=X7 (2 ^ p) (show u'+2<=I by omega);have e:(u'+2)*2 ^ p=u'*2 ^ p+2*2 ^ p:=Z2 ..;omega
 have Er:f.signWeight=I*2 ^ p+2 ^ p:=by rw[h.sw,Z2,Nat.one_mul]
 have hq:(u'*2 ^ p+(2 ^ p+r)) % 2 ^ p=r:=by
  rw[show u'*2 ^ p+(2 ^ p+r)=r+2 ^ p*(u'+1) by grind,Nat.add_mul_mod_self_left,Zt Y]
 have J:(u'*2 ^ p+(2 ^ p+r)) / 2 ^ p=u'+1:=by
  rw[show u'*2 ^ p+(2 ^ p+r)=r+2 ^ p*(u'+1) by grind,Nat.add_mul_div_left _ _ hp,Zu Y];omega
 unfold Ieee.Format.read Ieee.Format.word
 have hm:(if neg=true then f.signWeight+(u'*2 ^ p+(2 ^ p+r)) else u'*2 ^ p+(2 ^ p+r)) % f.signWeight=u'*2 ^ p+(2 ^ p+r):=by
  cases neg
  ·simp only[XO,YC];exact Zt (by omega)
  ·simp only[Yp];rw[Nat.add_mod_left];exact Zt (by omega)
 have hs:((if neg=true then f.signWeight+(u'*2 ^ p+(2 ^ p+r)) else u'*2 ^ p+(2 ^ p+r)) / f.signWeight % 2==1)=neg:=by
  cases neg
  ·simp only[XO,YC];rw[Zu (by omega)];rfl
  ·simp only[Yp];rw[Nat.add_div_left _ (by omega),Zu (by omega)];rfl
 simp only[hm,hs,h.bn,h.inf,h.lp];rw[Xr (by omega),Xu bH,hq,J];congr 1;omega
theorem yj(h:Fm f p L I)(neg:Bool):f.read (f.word neg 0)=.number neg 0 (-(L:Int)):=by
 have hp:=Yj p;have Er:f.signWeight=I*2 ^ p+2 ^ p:=by rw[h.sw,Z2,Nat.one_mul]
 unfold Ieee.Format.read Ieee.Format.word;have hm:(if neg=true then f.signWeight+0 else 0) % f.signWeight=0:=by cases neg<;>simp
 have hs:((if neg=true then f.signWeight+0 else 0) / f.signWeight % 2==1)=neg:=by
  cases neg
  ·simp
  ·simp only[Yp,YI];rw[Nat.div_self (by omega)];rfl
 simp only[hm,hs,h.bn,h.lp];rw[Xu hp]
theorem eZ(h:Fm f p L I)(neg:Bool){n:Nat}(bH:n<2 ^ (p+1)):∃k:Nat,f.read (f.nearest neg n 0)=.number neg (n*2 ^ k) (-(k:Int)):=by
 by_cases hn:n=0
 ·subst hn
  rw[fR];exact⟨L,by rw[yj h,ZV]⟩
 ·have hle:=pF (by omega) bH
  have h0:=pD h neg 0 (n:=n) (by omega) bH;rw[Zg,YA]at h0;have QV:=h.pl;have hli:=h.li;have hp:=Yj p
  have g1:2 ^ p<=n*2 ^ (p - n.log2):=by
   have:=X7 (2 ^ (p - n.log2)) (Nat.log2_self_le hn);rwa [<-YN,show n.log2+(p - n.log2)=p by omega]at this
  have g2:n*2 ^ (p - n.log2)<2 ^ p+2 ^ p:=by
   have:=Zr (Nat.lt_log2_self (n:=n)) (Yj (p - n.log2));rw[<-YN,show n.log2+1+(p - n.log2)=p+1 by omega,ZC]at this;omega
  obtain⟨r,Y⟩:∃r,n*2 ^ (p - n.log2)=2 ^ p+r:=⟨n*2 ^ (p - n.log2) - 2 ^ p,by omega⟩;refine⟨p - n.log2,?_⟩
  have U6:min ((L+n.log2 - p)*2 ^ p+n*2 ^ (p - n.log2)) (I*2 ^ p)=(L+n.log2 - p)*2 ^ p+(2 ^ p+r):=by
   rw[Y];have:=X7 (2 ^ p) (show L+n.log2 - p+2<=I by omega);rw[Z2]at this;omega
  rw[show f.nearest neg n 0=_ from h0,U6,yn h neg (by omega) (by omega),Y];congr 1;omega
theorem ji(a:Int)(k K:Nat)(h:k<=K):Ieee.signed (decide (a<0)) (a.natAbs*2 ^ k) (-(k:Int) - -(K:Int)).toNat=a*2 ^ K:=by
 have e:(-(k:Int) - -(K:Int)).toNat=K - k:=by omega
 unfold Ieee.signed;rw[e,Y9,YU,<-YN,show k+(K - k)=K by omega];by_cases ha:a<0
 ·rw[ZS ha,Xu E,Zo,Int.natCast_pow,show ((a.natAbs:Nat):Int) = -a by omega]
  simp[Int.neg_mul]
 ·rw[XV ha,Xr (by simp),Zo,Int.natCast_pow,show ((a.natAbs:Nat):Int)=a by omega];rfl
theorem ql(K:Nat):(0:Int)<2 ^ K:=Int.pow_pos (by omega)
def wd(f:Ieee.Format)(a:Int):Nat:=f.nearest (decide (a<0)) a.natAbs 0
def W8(p:Nat)(a:Int):Prop:=a.natAbs<2 ^ (p+1)
theorem LO(h:Fm f p L I){a b:Int}(ha:W8 p a)(hb:W8 p b):f.order (wd f a) (wd f b)=some (compare a b):=by
 have⟨k,hk⟩:=eZ h (decide (a<0)) ha;have⟨j,hj⟩:=eZ h (decide (b<0)) hb;unfold Ieee.Format.order wd;rw[hk,hj];simp only[Ieee.Datum.order,XS];obtain⟨K,hK⟩:∃K:Nat,K=max k j:=⟨_,rfl⟩;have J9:min (-(k:Int)) (-(j:Int)) = -(K:Int):=by omega
 rw[J9,ji a k K (by omega),ji b j K (by omega)];have hp:=ql K;rcases Int.lt_trichotomy a b with q|q|q
 ·rw[Zl.2 q,Zl.2 (YO q hp)]
 ·subst q;simp
 ·rw[Zm.2 q,Zm.2 (YO q hp)]
theorem Kz(h:Fm f p L I){a:Int}(ha:W8 p a):(f.read (wd f a)).toInt .zero=some a:=by
 have⟨k,hk⟩:=eZ h (decide (a<0)) ha;unfold wd;rw[hk];unfold Ieee.Datum.toInt Ieee.Datum.integral;have e1:(-(k:Int)).toNat=0:=by omega
 have e2:(- -(k:Int)).toNat=k:=by omega
 simp only[e1,e2,Nat.shiftLeft_zero,N5,XS];unfold Ieee.signed;by_cases q:a<0
 ·rw[ZS q,Xu E,Nat.shiftLeft_zero];omega
 ·rw[XV q,Xr (by simp),Nat.shiftLeft_zero];omega
def rq(n:Int):Prop:=n.natAbs<2 ^ 24
theorem wH{n:Int}(h1 : -16777215<=n)(h2:n<=16777215):rq n:=by unfold rq;omega
theorem Rm{a b:Int}(ha:rq a)(hb:rq b):FloatKind.f32.format.order (FloatKind.f32.nearest a) (FloatKind.f32.nearest b)=some (compare a b):=LO H3 ha hb
theorem AQ{a:Int}(ha:rq a):floatToIntVal .f32 (FloatKind.f32.nearest a) .i64=some a:=by
 unfold floatToIntVal;have h:(FloatKind.f32.decode (FloatKind.f32.nearest a)).toInt .zero=some a:=Kz H3 ha;rw[h]
 have h1:IntKind.i64.min<=a/\a<=IntKind.i64.max:=by
  unfold rq at ha;show (-9223372036854775808:Int)<=a/\a<=9223372036854775807
  omega
 show (if IntKind.i64.min<=a/\a<=IntKind.i64.max then some a else none)=some a
 rw[Xu h1]
theorem E0(a:Int)(k K:Nat)(h:k<=K):Ieee.signed (!(decide (a<0))) (a.natAbs*2 ^ k) (-(k:Int) - -(K:Int)).toNat = -(a*2 ^ K):=by
 have e:=ji a k K h;unfold Ieee.signed at e ⊢;by_cases ha:a<0
 ·rw[ZS ha,Xu E]at e
  rw[ZS ha,Xr (by simp)];omega
 ·rw[XV ha,Xr (by simp)]at e
  rw[XV ha,Xu (by simp)];omega
theorem TZ{f:Ieee.Format}{p L I:Nat}(h:Fm f p L I){a b:Int}(ha:W8 p a)(hb:W8 p b)(hc:W8 p (a - b)):f.sub (wd f a) (wd f b)=some (wd f (a - b)):=by
 have⟨k,hk⟩:=eZ h (decide (a<0)) ha;have⟨j,hj⟩:=eZ h (decide (b<0)) hb;unfold Ieee.Format.sub wd;rw[hk,hj];simp only[Ieee.Datum.opposite,Ieee.Datum.sum,XB,XS];obtain⟨K,hK⟩:∃K:Nat,K=max k j:=⟨_,rfl⟩;have J9:min (-(k:Int)) (-(j:Int)) = -(K:Int):=by omega
 rw[J9,ji a k K (by omega),E0 b j K (by omega),<-Int.sub_eq_add_neg,<-Int.sub_mul];have hp:=ql K;have hna:((a - b)*2 ^ K).natAbs=(a - b).natAbs*2 ^ K:=by rw[Int.natAbs_mul,Int.natAbs_pow];rfl
 have hz:((a - b)*2 ^ K=0)↔a - b=0:=by rw[Int.mul_eq_zero];constructor<;>intro q<;>omega
 have az5:((a - b)*2 ^ K<0)↔a - b<0:=by
  constructor
  ·intro q
   by_cases q2:a - b<0
   ·exact q2
   ·have:=X2 (show 0<=a - b by omega) (Int.le_of_lt hp);omega
  ·intro q;exact Int.mul_neg_of_neg_of_pos q hp
 unfold Ieee.Format.write;simp only[hna];by_cases hs:a - b=0
 ·rw[Xu (hz.2 hs),hs]
  have:(decide (a<0) && !decide (b<0))=false:=by
   by_cases q:a<0
   ·rw[ZS (show b<0 by omega)];simp
   ·rw[XV q];rfl
  rw[this];simp[fR]
 ·rw[Xr (λq=>hs (hz.1 q)),xo h _ K hc]
  congr 1;exact YY.2 az5
theorem Rl{a b:Int}(ha:rq a)(hb:rq b)(hc:rq (a - b)):floatBits .sub .f32 (FloatKind.f32.nearest a) (FloatKind.f32.nearest b)=some (FloatKind.f32.nearest (a - b)):=TZ H3 ha hb hc
theorem AP{a:Int}(ha:rq a):ordB .neq (FloatKind.f32.format.order (FloatKind.f32.nearest a) (FloatKind.f32.nearest a))=false:=by
 rw[Rm ha ha];have:compare a a=.eq:=by simp
 rw[this];rfl
theorem Sl:Ieee.single.read 1266679808=.number false 8388608 1:=by decide +kernel
theorem Sk:Ieee.single.read 3414163456=.number true 8388608 1:=by decide +kernel
theorem LA(k:Nat):((8388608 <<< ((1:Int) - -(k:Int)).toNat:Nat):Int)=16777216*2 ^ k:=by
 have e:((1:Int) - -(k:Int)).toNat=k+1:=by omega
 rw[e,Y9,ZC,Zo,Zo,Int.natCast_pow];show (8388608:Int)*(2 ^ k*2)=_
 grind
theorem Rp{n:Int}(h:rq n):ordB .geq (FloatKind.f32.format.order (FloatKind.f32.nearest n) 1266679808)=false:=by
 have⟨k,hk⟩:=eZ H3 (decide (n<0)) h;show ordB .geq ((Ieee.single.read (wd Ieee.single n)).order (Ieee.single.read 1266679808))=false
 unfold wd;rw[hk,Sl];simp only[Ieee.Datum.order];have hb:min (-(k:Int)) 1 = -(k:Int):=by omega
 rw[hb,ji n k k (Xw _)];have e:Ieee.signed false 8388608 ((1:Int) - -(k:Int)).toNat=16777216*2 ^ k:=LA k;rw[e];have hp:=ql k;have bH:n*2 ^ k<16777216*2 ^ k:=YO (by unfold rq at h;omega) hp;rw[Zl.2 bH];rfl
theorem Ro{n:Int}(h:rq n):ordB .leq (FloatKind.f32.format.order (FloatKind.f32.nearest n) 3414163456)=false:=by
 have⟨k,hk⟩:=eZ H3 (decide (n<0)) h;show ordB .leq ((Ieee.single.read (wd Ieee.single n)).order (Ieee.single.read 3414163456))=false
 unfold wd;rw[hk,Sk];simp only[Ieee.Datum.order];have hb:min (-(k:Int)) 1 = -(k:Int):=by omega
 rw[hb,ji n k k (Xw _)];have e:Ieee.signed true 8388608 ((1:Int) - -(k:Int)).toNat = -(16777216*2 ^ k):=by rw[<-LA k];rfl
 rw[e];have hp:=ql k;have bH:(-16777216)*2 ^ k<n*2 ^ k:=YO (by unfold rq at h;omega) hp;have hgt : -(16777216*2 ^ k)<n*2 ^ k:=by rw[<-Int.neg_mul];exact bH
 rw[Zm.2 hgt];rfl
def KK:Nat:=1100
theorem TI:1100<=KK:=Xw _
def QQ:Nat:=2 ^ KK
theorem sX:0<QQ:=Yj _
def jh(f:Ieee.Format)(b:Nat)(s:Bool)(M:Nat):Prop:=∃(m:Nat) (e:Int),f.read b=.number s m e/\-(KK:Int)<=e/\m*2 ^ (e+KK).toNat=M
def fi(s:Bool)(M:Nat):Int:=if s then -(M:Int) else M
theorem Ig(s:Bool)(m u:Nat):Ieee.signed s m u=fi s (m*2 ^ u):=by unfold Ieee.signed fi;rw[Y9]
theorem zG(s:Bool)(M q:Nat):fi s (M*q)=fi s M*(q:Int):=by unfold fi;cases s<;>simp[Zo,Int.neg_mul]
theorem uY(s:Bool)(M:Nat):(fi s M).natAbs=M:=by unfold fi;cases s<;>simp
theorem Rx(a b:Int){q:Nat}(h:0<q):compare (a*(q:Int)) (b*(q:Int))=compare a b:=by
 have hp:(0:Int)<q:=by omega
 rcases Int.lt_trichotomy a b with h|h|h
 ·rw[Zl.2 h,Zl.2 (YO h hp)]
 ·subst h;simp
 ·rw[Zm.2 h,Zm.2 (YO h hp)]
theorem jl{a b:Nat}{s t:Bool}{M N:Nat}(ha:jh f a s M)(hb:jh f b t N):f.order a b=some (compare (fi s M) (fi t N)):=by
 obtain⟨m,i,h1,h2,rfl⟩:=ha;obtain⟨n,j,h3,h4,rfl⟩:=hb;unfold Ieee.Format.order;rw[h1,h3];simp only[Ieee.Datum.order,XS];obtain⟨c,hc⟩:∃c:Nat,c=(min i j+KK).toNat:=⟨_,rfl⟩;have e1:(i+KK).toNat=(i - min i j).toNat+c:=by omega
 have e2:(j+KK).toNat=(j - min i j).toNat+c:=by omega
 rw[Ig,Ig,e1,e2,YN,YN,<-YU,<-YU,zG _ _ (2 ^ c),zG _ _ (2 ^ c),Rx _ _ (Yj c)]
theorem zt{b:Nat}{s:Bool}{M:Nat}(h:jh f b s M):f.sub b b=some 0:=by
 obtain⟨m,e,h1,-,-⟩:=h;unfold Ieee.Format.sub;rw[h1];have ht:∀u,Ieee.signed s m u+Ieee.signed (!s) m u=0:=by intro u;unfold Ieee.signed;cases s<;>simp<;>omega
 simp only[Ieee.Datum.opposite,Ieee.Datum.sum,XB,XS,ht];simp[Ieee.Format.write,fR,Ieee.Format.word]
theorem GW{b:Nat}{s:Bool}(h:f.read b=.infinity s):f.sub b b=none:=by
 unfold Ieee.Format.sub;rw[h]
 cases s<;>rfl
theorem aF9(neg:Bool)(n d:Nat):Ieee.Toward.zero.cut neg n d=n / 2 ^ d:=by
 unfold Ieee.Toward.cut;simp only[Nat.one_shiftLeft,Bool.toNat_false,YI];by_cases h:d<=n.log2+2
 ·rw[Nat.min_eq_left h]
 ·rw[Nat.min_eq_right (by omega)]
  have h1:n<2 ^ (n.log2+2):=XD Nat.lt_log2_self (ZR (by omega) (by omega));rw[Zu h1,Zu (XD h1 (ZR (by omega) (by omega)))]
theorem IC{b:Nat}{s:Bool}{M:Nat}(h:jh f b s M):(f.read b).toInt .zero=some (fi s (M / QQ)):=by
 obtain⟨m,e,h1,h2,rfl⟩:=h;rw[h1];unfold Ieee.Datum.toInt Ieee.Datum.integral;simp only[aF9];rw[Ig,Zg,YA,Y9];congr 2;unfold QQ;by_cases he:0<=e
 ·have e1:(-e).toNat=0:=by omega
  have e2:(e+KK).toNat=e.toNat+KK:=by omega
  rw[e1,e2,Zg,Nat.div_one,YN,<-YU,Nat.mul_div_cancel _ (Yj _)]
 ·have e1:e.toNat=0:=by omega
  obtain⟨u,hu⟩:∃u:Nat,u=(e+KK).toNat:=⟨_,rfl⟩;obtain⟨v,hv⟩:∃v:Nat,v=(-e).toNat:=⟨_,rfl⟩;have e2:KK=u+v:=by omega
  rw[e1,Zg,YA,<-hu,<-hv,e2,YN,YW m,Nat.mul_div_mul_left _ _ (Yj _)]
theorem Cl(h:Fm f p L I)(neg:Bool){n:Nat}(j:Nat)(e:Int)(hn:0<n)(bH:n<2 ^ (p+1))(he:(p:Int)<=e+j+n.log2+L) :
  f.nearest neg (n*2 ^ j) e=f.word neg (min ((e+j+n.log2+L - p).toNat*2 ^ p+n*2 ^ (p - n.log2)) (I*2 ^ p)):=by
 have hl:=qB (d:=j) (show n≠0 by omega);have hle:=pF hn bH;have hK:=Yj j;unfold Ieee.Format.nearest;rw[Xr (ZB (by omega) (by omega)),hl,h.fb,h.lp,h.bn,h.inf];simp only;have MV:max (e+((n.log2+j:Nat):Int) - (p:Int)) (-(L:Int))=e+j+n.log2 - p:=by omega
 rw[MV];congr 2;have e1:(e+j+(n.log2:Int) - p - -(L:Int)).toNat=(e+j+n.log2+L - p).toNat:=by omega
 rw[e1];congr 1;by_cases hk:j<=p - n.log2
 ·have e2:(e - (e+j+(n.log2:Int) - p)).toNat=p - n.log2 - j:=by omega
  have e3:(e+j+(n.log2:Int) - p - e).toNat=0:=by omega
  rw[e2,e3,Y9,YU,<-YN,show j+(p - n.log2 - j)=p - n.log2 by omega];have:=ry (neg:=neg) (c:=n*2 ^ (p - n.log2)) (d:=0) (ZB (by omega) (by have:=Yj (p - n.log2);omega));rwa [Zg,YA]at this
 ·have e2:(e - (e+j+(n.log2:Int) - p)).toNat=0:=by omega
  have e3:(e+j+(n.log2:Int) - p - e).toNat=j - (p - n.log2):=by omega
  rw[e2,e3,Y9,Zg,YA];have e4:n*2 ^ j=n*2 ^ (p - n.log2)*2 ^ (j - (p - n.log2)):=by rw[YU,<-YN,show p - n.log2+(j - (p - n.log2))=j by omega]
  rw[e4];exact ry (ZB (by omega) (by have:=Yj (p - n.log2);omega))
theorem vw(h:Fm f p L I)(neg:Bool){n:Nat}(j:Nat)(e:Int)(bH:n<2 ^ (p+1))(hL:L<=KK)(he0 : -(KK:Int)<=e)(he:0<n->(p:Int)<=e+j+n.log2+L)(he2:0<n->e+j+n.log2+L+2<=I+p) :
  jh f (f.nearest neg (n*2 ^ j) e) neg (n*2 ^ j*2 ^ (e+KK).toNat):=by
 by_cases hn:n=0
 ·subst hn
  rw[ZV,fR];exact⟨0,_,yj h neg,by omega,by rw[ZV,ZV]⟩
 ·have SM:0<n:=by omega
  have hle:=pF SM bH;have Vn:=he SM;have aI3:=he2 SM;have hli:=h.li;have hp:=Yj p;rw[Cl h neg j e SM bH Vn]
  have g1:2 ^ p<=n*2 ^ (p - n.log2):=by
   have:=X7 (2 ^ (p - n.log2)) (Nat.log2_self_le hn);rwa [<-YN,show n.log2+(p - n.log2)=p by omega]at this
  have g2:n*2 ^ (p - n.log2)<2 ^ p+2 ^ p:=by
   have:=Zr (Nat.lt_log2_self (n:=n)) (Yj (p - n.log2));rw[<-YN,show n.log2+1+(p - n.log2)=p+1 by omega,ZC]at this;omega
  obtain⟨r,Y⟩:∃r,n*2 ^ (p - n.log2)=2 ^ p+r:=⟨n*2 ^ (p - n.log2) - 2 ^ p,by omega⟩;obtain⟨u',hE⟩:∃u':Nat,u'=(e+j+n.log2+L - p).toNat:=⟨_,rfl⟩
  have U6:min (u'*2 ^ p+n*2 ^ (p - n.log2)) (I*2 ^ p)=u'*2 ^ p+(2 ^ p+r):=by
   rw[Y];have:=X7 (2 ^ p) (show u'+2<=I by omega);rw[Z2]at this;omega
  rw[<-hE,U6];refine⟨2 ^ p+r,(u':Int) - L,yn h neg (by omega) (by omega),by omega,?_⟩;rw[<-Y,YU,YU,<-YN,<-YN];congr 2;omega
theorem qh(h:Fm f p L I){b:Nat}{s:Bool}{m:Nat}{e:Int}(Y:f.read b=.number s m e):m<2 ^ (p+1)/\-(L:Int)<=e/\e+L+2<=I:=by
 have hp:=Yj p;have hli:=h.li;unfold Ieee.Format.read at Y;simp only[h.bn,h.inf,h.lp]at Y;obtain⟨r,Js⟩:∃r,r=b % f.signWeight:=⟨_,rfl⟩;rw[<-Js]at Y;rw[ZC];by_cases h1:r<2 ^ p
 ·rw[Xu h1]at Y
  injection Y with _ e1 e2
  omega
 ·rw[Xr h1]at Y
  by_cases h2:r<I*2 ^ p
  ·rw[Xu h2]at Y
   injection Y with _ e1 e2
   have h3:r / 2 ^ p<I:=Nat.div_lt_of_lt_mul (by rw[YW];exact h2);have h4:1<=r / 2 ^ p:=(Nat.one_le_div_iff hp).2 (by omega);have h5:=Zp r hp;omega
  ·rw[Xr h2]at Y
   by_cases h3:r=I*2 ^ p
   ·rw[Xu h3]at Y;cases Y
   ·rw[Xr h3]at Y;cases Y
theorem vv(h:Fm f p L I)(hL:L<=KK){b:Nat}{s:Bool}{m:Nat}{e:Int}(Y:f.read b=.number s m e):jh f b s (m*2 ^ (e+KK).toNat):=
 ⟨m,e,Y,by have:=(qh h Y).2.1;omega,rfl⟩
theorem Fy(h:Fm f p L I)(hL:L<=KK){a:Int}(ha:a.natAbs<2 ^ (p+1)):jh f (wd f a) (decide (a<0)) (a.natAbs*QQ):=by
 have QV:=h.pl;have hli:=h.li;have:=vw h (decide (a<0)) 0 0 ha hL (by omega) (λ_=>by omega) (λh0=>by have:=pF h0 ha;omega);rw[Zg,YA,show ((0:Int)+KK).toNat=KK by omega]at this;exact this
theorem ac3(a:Int)(Q:Nat):fi (decide (a<0)) (a.natAbs*Q)=a*(Q:Int):=by
 rw[zG];congr 1;unfold fi;by_cases ha:a<0
 ·rw[ZS ha,Xu E];omega
 ·rw[XV ha,Xr (by simp)];omega
theorem Ov(h:Fm f p L I)(hL:L<=KK){b:Nat}{s:Bool}{m:Nat}{e:Int}{M:Nat}(Y:f.read b=.number s m e)(hM:m*2 ^ (e+KK).toNat=M) :
  jh f (wd f (fi s (M / QQ))) (decide (fi s (M / QQ)<0)) (M / QQ*QQ):=by
 have⟨h1,h2,h3⟩:=qh h Y;have QV:=h.pl;have hli:=h.li;by_cases he:0<=e
 ·have e2:(e+KK).toNat=e.toNat+KK:=by omega
  have hq:M / QQ=m*2 ^ e.toNat:=by
   rw[<-hM,e2,YN,<-YU];exact Nat.mul_div_cancel _ sX
  have:=vw h (decide (fi s (M / QQ)<0)) e.toNat 0 h1 hL (by omega) (λ_=>by omega) (λh0=>by have:=pF h0 h1;omega);rw[show ((0:Int)+KK).toNat=KK by omega,<-hq]at this;unfold wd;rw[uY];exact this
 ·have bH : M / QQ < 2 ^ (p + 1) := by
   refine Nat.lt_of_le_of_lt ?_ h1;refine Nat.div_le_of_le_mul ?_;rw[<-hM,YW QQ];exact Nat.mul_le_mul_left _ (ZR (by omega) (by omega))
  have:=Fy h hL (a:=fi s (M / QQ)) (by rw[uY];exact bH);rwa [uY]at this
theorem PZ(s:Bool)(N Q:Nat):fi (decide (fi s N<0)) (N*Q)=fi s (N*Q):=by
 have:=ac3 (fi s N) Q;rw[uY]at this;rw[this,<-zG]
theorem ac4{s:Bool}{M N:Nat}:fi s M=fi s N↔M=N:=by unfold fi;cases s<;>simp<;>omega
theorem DU(h:Fm f p L I)(hL:L<=KK){b:Nat}{s:Bool}{m:Nat}{e:Int}{M:Nat}(Y:f.read b=.number s m e)(hM:m*2 ^ (e+KK).toNat=M) :
  (f.order (wd f (fi s (M / QQ))) b==some .eq)=decide (M % QQ=0):=by
 have hb:=vv h hL Y;rw[hM]at hb;rw[jl (Ov h hL Y hM) hb,PZ];have J:=Nat.div_add_mod M QQ;rw[YW]at J;by_cases h0:M % QQ=0
 ·have e1:M / QQ*QQ=M:=by omega
  rw[e1,ZS h0];simp
 ·rw[XV h0]
  have:fi s (M / QQ*QQ)≠fi s M:=λq=>h0 (by have:=ac4.1 q;omega);rcases Int.lt_or_gt_of_ne this with q|q
  ·rw[Zl.2 q];rfl
  ·rw[Zm.2 q];rfl
theorem y5(h:Fm f p L I){b:Nat}{s:Bool}{m:Nat}{e:Int}{M:Nat}(Y:f.read b=.number s m e)(hM:m*2 ^ (e+KK).toNat=M)(hB:2 ^ (p+1)*QQ<=M):M % QQ=0:=by
 have⟨h1,h2,h3⟩:=qh h Y;by_cases he:0<=e
 ·have e2:(e+KK).toNat=e.toNat+KK:=by omega
  rw[<-hM,e2,YN,<-YU];exact Nat.mul_mod_left _ _
 ·exfalso
  have h4:m*2 ^ (e+KK).toNat<=m*QQ:=Nat.mul_le_mul_left _ (ZR (by omega) (by omega));have h5:m*QQ<2 ^ (p+1)*QQ:=Zr h1 sX;omega
theorem LS:149<=KK:=by have:=TI;omega
theorem LD:1074<=KK:=by have:=TI;omega
theorem Rw(s:Bool):Ieee.double.read (Ieee.double.write (.infinity s))=.infinity s:=by cases s<;>decide +kernel
theorem Kk{b:Nat}{s:Bool}{m:Nat}{e:Int}(Y:Ieee.single.read b=.number s m e):∃b',floatToFloatBits .f32 b .f64=some b'/\∃m' e',Ieee.double.read b'=.number s m' e'/\m'*2 ^ (e'+KK).toNat=m*2 ^ (e+KK).toNat:=by
 have⟨h1,h2,h3⟩:=qh H3 Y;have hLD:=LD;have hx:=vw fmD s 0 e (n:=m) (Nat.lt_trans h1 (by decide)) hLD (by omega) (λ_=>by omega) (λh0=>by have:=pF h0 h1;omega);rw[Zg,YA]at hx;have⟨m',e',h4,h5,h6⟩:=hx;refine⟨Ieee.double.nearest s m e,?_,m',e',h4,h6⟩;unfold floatToFloatBits;have J:FloatKind.f32.decode b=.number s m e:=Y;have he:FloatKind.f64.encode (.number s m e)=Ieee.double.nearest s m e:=rfl
 have hi:(FloatKind.f64.decode (Ieee.double.nearest s m e)).isInfinity=false:=by
  show (Ieee.double.read (Ieee.double.nearest s m e)).isInfinity=false
  rw[h4];rfl
 rw[Xr (by decide),J];simp only[he,hi];rfl
theorem Kl{b:Nat}{s:Bool}(Y:Ieee.single.read b=.infinity s):∃b',floatToFloatBits .f32 b .f64=some b'/\Ieee.double.read b'=.infinity s:=by
 refine⟨Ieee.double.write (.infinity s),?_,Rw s⟩;unfold floatToFloatBits;have J:FloatKind.f32.decode b=.infinity s:=Y;rw[Xr (by decide),J];rfl
def P1(M:Nat):Int:=if 16777216*QQ<=M then 2 else if M % QQ≠0 then 25 else if 2047*QQ<M then 2 else 0
def sE(b:Nat):Int:=
 match Ieee.single.read b with
 | .number _ m e=>P1 (m*2 ^ (e+KK).toNat)
 | _=>25
theorem L6:jh Ieee.single 1266679808 false (16777216*QQ):=⟨8388608,1,Sl,by omega,by
 rw[show ((1:Int)+KK).toNat=KK+1 by omega,ZC];have e:2 ^ KK=QQ:=rfl
 rw[e];generalize QQ=q;omega⟩
theorem L4:jh Ieee.single 3414163456 true (16777216*QQ):=⟨8388608,1,Sk,by omega,by
 rw[show ((1:Int)+KK).toNat=KK+1 by omega,ZC];have e:2 ^ KK=QQ:=rfl
 rw[e];generalize QQ=q;omega⟩
theorem xF(a b:Int):(some (compare a b)==some .eq)=decide (a=b)/\(some (compare a b)==some .lt)=decide (a<b)/\(some (compare a b)==some .gt)=decide (b<a):=by
 rcases Int.lt_trichotomy a b with h|h|h
 ·rw[Zl.2 h,XV (by omega),ZS h,XV (by omega)];decide
 ·rw[Int.compare_eq_eq.2 h,ZS h,XV (by omega),XV (by omega)];decide
 ·rw[Zm.2 h,XV (by omega),XV (by omega),ZS h];decide
theorem Fw{a b:Nat}{s t:Bool}{M N:Nat}(ha:jh f a s M)(hb:jh f b t N):ordB .geq (f.order a b)=decide (fi t N<=fi s M):=by
 rw[jl ha hb];have⟨h1,h2,h3⟩:=xF (fi s M) (fi t N);unfold ordB;simp only[h1,h3];rw[<-Bool.decide_or];exact YY.2 (by omega)
theorem Fv{a b:Nat}{s t:Bool}{M N:Nat}(ha:jh f a s M)(hb:jh f b t N):ordB .leq (f.order a b)=decide (fi s M<=fi t N):=by
 rw[jl ha hb];have⟨h1,h2,h3⟩:=xF (fi s M) (fi t N);unfold ordB;simp only[h1,h2];rw[<-Bool.decide_or];exact YY.2 (by omega)
theorem UK{a b:Nat}{s t:Bool}{M N:Nat}(ha:jh f a s M)(hb:jh f b t N):ordB .lss (f.order a b)=decide (fi s M<fi t N):=by
 rw[jl ha hb];exact(xF _ _).2.1
theorem UL{a b:Nat}{s t:Bool}{M N:Nat}(ha:jh f a s M)(hb:jh f b t N):ordB .gtr (f.order a b)=decide (fi t N<fi s M):=by
 rw[jl ha hb];exact(xF _ _).2.2
theorem zZ{a:Nat}{s:Bool}{M:Nat}(ha:jh f a s M):ordB .neq (f.order a a)=false:=by
 rw[jl ha ha];have:=(xF (fi s M) (fi s M)).1;unfold ordB;rw[bne,this];simp
theorem jj(n lo hi:Int):PC qP 163 [.v (.int .i64 (n)),.v (.int .i64 (lo)),.v (.int .i64 (hi))] (.v (.bool (dP lo n hi))):=by
 refine av (qA func163 E) E ntmps163 results163 λw0=>ae (xa 1 (V aA (rs (xa 9 (V aF (V aF (V (iG E E) (V aF (aE E E (λhG=>aF) (aE E E (λhG=>aF) (aE E E (λhG=>(iG E E)) (aT E E E E E E ?_))))))))))));refine V aA (xc (ah ?_));refine⟨_,cS,?_⟩;simp only[gX];rfl
theorem BU(n m:Int)(h1:0<=m)(h2:m<=1000000000000):PC qP 176 [.v (.int .i64 (n)),.v (.int .i64 (m))] (.v (.bool (dP (-m) n m))):=by
 refine av (qA func176 E) E ntmps176 results176 λw0=>ae (xa 1 (V aA (rs (xa 6 (V aF (V aF ?_))))));refine V (tw E xi) (V aF (V (ak yY (.cons E (.cons E (.cons E .nil))) E (jj _ _ _)) (V aA (xc (ah ?_)))));refine⟨_,cS,?_⟩;rfl
def g9(b:Bool)(e:Int):Int:=if b=true then 0 else e
theorem vz(b:Bool)(e:Int):PC qP 162 [.v (.bool (b)),.v (.int .i64 (e))] (.v (.int .i64 (g9 b e))):=by
 refine av (qA func162 E) E ntmps162 results162 λw0=>ae (xa 1 (V aA (rs (ae (xa 1 (V aF (xc (ao E (λbW=>?_) (λbW=>?_)))))))))
 ·(try simp only[nb,Xv]at bW);have hz:g9 b e=0:=by unfold g9;rw[Xu bW]
  refine ae (xa 1 (V aA (xc (ah ?_))));refine⟨_,cS,?_⟩;rw[hz];rfl
 ·(try simp only[nb,Xv]at bW);have hz:g9 b e=e:=by unfold g9;rw[Xr (by simpa using bW)]
  refine wO ?_;change dG _ _ _ _ _;refine ae (xa 2 (V aF (V aA (xc (ah ?_)))));refine⟨_,cS,?_⟩;rw[hz];rfl
theorem vc(l:List Int):PC qP 156 [.sl 1 (l.map iC)] (.v (.int .i64 (firstE l))):=by
 refine av (qA func156 E) E ntmps156 results156 λw0=>ae (xa 1 (V aA (rs (ae (xa 3 (V (aq (x:=.d (.sl _ _)) E) (V (cd FK E (by exact aV _ _)) (V aF (xc (bm (t:=5) E (λQ1=>?_)))))))))));(try simp only[Xo]at Q1);refine az (bG [2,4,7,8,9,10,11,12,13,14] [] (α:=Nat) (λk=>[(7,T.i (k:Int))]) (λk=>[]) (λk=>k<=l.length/\firstE l=firstE (l.drop k)) (λk=>l.length - k) 0 ⟨XC _,rfl⟩ ?_ ?_)
 ·exact xh (ms:=[]) (by repeat (exact Out.refl _)) ⟨(by rfl),trivial⟩ trivial
 ·intro k ⟨hk,hf⟩;refine ae (xa 1 (V (cM E E) (rs (ao E (λbV=>?_) (λbV=>?_)))))
  ·(try simp only[nb,Xv]at bV);have bH:k<l.length:=by omega
   have hx:=Xp bH;have J:firstE (l.drop k)=if l[k]=0 then firstE (l.drop (k+1)) else l[k]:=by rw[Yf bH];rfl
   generalize l[k]=x at *;refine wO ?_;change dG _ _ _ _ _;refine ae (az (ae (xa 3 (V (aJ oT E E (by omega) (cm (by omega) hx)) (V (aj TY E E) (V aA (rs (xa 2 (V aF (V (bS E E) (xc (ao E (λeJ=>?_) (λeJ=>?_)))))))))))))
   ·(try simp only[nb,Xv]at eJ);refine ae (xa 2 (V aF (V aA (xc (ah ?_)))));refine⟨_,cS,?_⟩;rw[hf,J,Xr eJ];rfl
   ·(try simp only[nb,Xv]at eJ);refine wO ?_;change dG _ _ _ _ _;refine xa 2 ?_;refine V (lE E E xi) (V aF (rn ?_));refine⟨k+1,⟨by omega,by rw[hf,J,Xu eJ]⟩,by omega,?_⟩;exact xh (ms:=[]) (by repeat (first|exact Out.head E E|(refine Out.put ?_ E))) ⟨(by rfl),trivial⟩ trivial
  ·(try simp only[nb,Xv]at bV);refine bJ ?_;change dG _ _ _ _ _;refine ae (xa 1 (V aA (xc (ah ?_))));refine⟨_,cS,?_⟩;rw[hf,Yu (by omega)];rfl
theorem F7(n b:Int)(h:Sm n)(hb:0<b):PC qP 175 [.v (.int .i64 (n)),.v (.int .i64 (b))] (.v (.int .i64 (n / b))):=by
 have hq:=GU h hb;have⟨h1,h2⟩:=h;have⟨h3,h4⟩:=hq;have hl:=yV (n:=n) hb;refine av (qA func175 E) E ntmps175 results175 λw0=>ae (xa 1 (V aA (rs (xa 4 (V aF (V aF ?_))))));refine V (B5 E E (by omega) xi) (V aA (rs (ae (xa 4 (V aF (V aF (V (yo E E (by omega)) (V (cM E E) (xc (ao E (λbV=>?_) (λbV=>?_)))))))))))
 ·(try simp only[nb,Xv]at bV);rw[Xu bV]at hl;refine xa 3 (V aF ?_);refine V (dk E E xi) (V aA (rs (xa 2 (V aF (V aA (xc (ah ?_)))))));refine⟨_,cS,?_⟩;rw[<-hl];rfl
 ·(try simp only[nb,Xv]at bV);rw[Xr (by omega)]at hl;refine wO ?_;change dG _ _ _ _ _;refine ae (xa 2 (V aF (V aA (xc (ah ?_)))));refine⟨_,cS,?_⟩;rw[<-hl];rfl
theorem Kv(n b:Int)(h:Sm n)(hb:0<b):PC qP 173 [.v (.int .i64 (n)),.v (.int .i64 (b))] (.v (.int .i64 (pb n b))):=by
 have⟨h1,h2⟩:=h;have hq:=Rt (a:=-n) ⟨by omega,by omega⟩ hb;have⟨h3,h4⟩:=hq;refine av (qA func173 E) E ntmps173 results173 λw0=>ae (xa 1 (V aA (rs (xa 6 (V aF ?_)))));refine V (tw E xi) (V aF ?_);refine V (ak NL (.cons E (.cons E .nil)) E (F7 _ _ ⟨by omega,by omega⟩ (by omega))) ?_;refine V (tw E xi) (V aA (xc (ah ?_)));refine⟨_,cS,?_⟩;rfl
theorem u64_in{n:Int}(h0:0<=n)(h1:n<=9223372036854775807):IntKind.u64.wrap n=n:=by rw[IntKind.wrap_u64];omega
theorem UU{n:Int}(h0:0<=n)(h1:n<=9223372036854775807):IntKind.i64.wrap n=n:=IntWalk.i64_in _ ⟨by omega,by omega⟩
theorem Nn{n:Int}(h0:0<=n):(0:Int)<=1/\n.fdiv (2 ^ (min (1:Int).toNat IntKind.u64.bits))=n / 2:=⟨by omega,by rw[show min (1:Int).toNat IntKind.u64.bits=1 from by decide,Int.fdiv_eq_ediv_of_nonneg _ (by decide)];rfl⟩
theorem BS(f:Int->Bool)(g:ϋ)(cap:List D)(Vm:cA qP g=true)(n:Int)(hn:n<=4611686018427387903)(hf:∀h,0<=h->h<n->PC qP g (.v (.int .i64 h)::cap) (.v (.bool (f h)))):PC qP 178 [.v (.int .i64 (n)),.fn (.func g) cap] (.v (.int .i64 (BI f n))):=by
 refine av (qA func178 E) E ntmps178 results178 λw0=>ae (xa 1 (V aA (rs (xa 3 (V aF (V aA (V aA (rs (az ?_)))))))));refine bG [5,6,7,9,10,11,12,13,14,15,16,17,18,19,20,21,22,23,24] [] (α:=Nat × Int × Int) (λx=>[(5,T.i x.2.1),(6,T.i x.2.2)]) (λx=>[]) (λx=>0<=x.2.1/\x.2.2<=n/\(x.2.2 - x.2.1<2 ^ x.1)/\BI f n=bsr f x.1 x.2.1 x.2.2) (λx=>x.1) (62,0,n) ⟨by simp,by simp,by simp only;omega,rfl⟩ ?_ ?_
 ·exact xh (ms:=[]) (by repeat (exact Out.refl _)) ⟨(by rfl),(by rfl),trivial⟩ trivial
 ·intro ⟨d,i,j⟩ ⟨hi,hj,J,hh⟩;simp only at hi hj J hh;refine ae (ae (xa 3 (V aF (V aF (V (cM E E) (xc (ao E (λbV=>?_) (λbV=>?_))))))))
  ·(try simp only[nb,Xv]at bV)
   obtain⟨e,rfl⟩:∃e,d=e+1:=by cases d with
    | zero=>simp at J;omega
    | succ e=>exact⟨e,rfl⟩
   have he:(2:Int) ^ (e+1)=2 ^ e+2 ^ e:=by rw[Int.pow_succ];omega
   have dU:=DL (f:=f) (k:=e) bV;have hfx:=hf ((i+j) / 2) (by omega) (by omega);refine wO ?_;change dG _ _ _ _ _;refine az (ae (xa 7 (V aF (V aF ?_))));refine V (lE E E (lL.mk (by (simp only;omega)) (by (simp only;omega)))) ?_;refine V (ur vU MF E (u64_in (by (simp only;omega)) (by (simp only;omega)))) ?_;refine V (Uw E E (Nn (by (simp only;omega)))) ?_;refine V (ur MF vU E (UU (by (simp only;omega)) (by (simp only;omega)))) (V aA (rs (xa 4 (V (aq (x:=.d (.fn _ _)) E) (V aF (V (Hk Vm E (.cons E .nil) (hfx)) (V (bX E) (xc (ao E (λeJ=>?_) (λeJ=>?_))))))))))
   ·(try simp only[nb,Xv]at eJ);have hq:f ((i+j) / 2)=false:=by simpa using eJ
    refine xa 3 (V aF ?_);refine V (lE E E (lL.mk (by (simp only;omega)) (by (simp only;omega)))) (V aA (rn ?_));refine⟨(e,(i+j) / 2+1,j),⟨by simp only;omega,by simp only;omega,by simp only;omega,by rw[hh,dU,Xr (by rw[hq];simp)]⟩,by simp only;omega,?_⟩;exact xh (ms:=[]) (by repeat (first|exact Out.head E E|(refine Out.put ?_ E))) ⟨(by rfl),(by rfl),trivial⟩ trivial
   ·(try simp only[nb,Xv]at eJ);have hq:f ((i+j) / 2)=true:=by simpa using eJ
    refine xa 2 (V aF (V aA (rn ?_)));refine⟨(e,i,(i+j) / 2),⟨by simp only;omega,by simp only;omega,by simp only;omega,by rw[hh,dU,Xu hq]⟩,by simp only;omega,?_⟩;exact xh (ms:=[]) (by repeat (first|exact Out.head E E|(refine Out.put ?_ E))) ⟨(by rfl),(by rfl),trivial⟩ trivial
  ·(try simp only[nb,Xv]at bV);have hz:=DK (f:=f) (k:=d) (i:=i) (j:=j) (by omega);refine bJ ?_;change dG _ _ _ _ _;refine ae (xa 2 (V aF (V aA (xc (ah ?_)))));refine⟨_,cS,?_⟩;rw[hh,hz];rfl
theorem P3(r n:Int)(h0:0<=r)(h1:r<2147483648):PC qP 188 [.v (.int .i64 (r)),.pt [.v (.int .i64 (n))] 0] (.v (.bool (decide (n<r*r)))):=by
 have m:=lX (a:=r) (b:=r) (A:=2147483648) (B:=2147483648) (by omega) (by omega) (by omega) (by omega);refine av (qA func188 E) E ntmps188 results188 λw0=>ae (xa 1 (V aA (rs (xa 6 (V aF (V aF ?_))))));refine V (cZ E E xi) (V (aj mF E E) (V (gM E E) (V aA (xc (ah ?_)))));refine⟨_,cS,?_⟩;rfl
theorem Uo(n:Int)(h0:0<=n)(h1:n<4611686018427387904):PC qP 186 [.v (.int .i64 (n))] (.v (.int .i64 (gk n))):=by
 have hs:=IT h0 h1;have⟨r1,r2,r3,r4⟩:=lq h0 h1;refine av (qA func186 E) E ntmps186 results186 λw0=>ae (xa 2 (V (aP E E') (V aA (rs (xa 4 (V (jw (.cons E .nil)) (V (ak Tb (.cons E (.cons E .nil)) E (BS (λr=>decide (n<r*r)) 188 [.pt [.v (.int .i64 n)] 0] an5 2147483648 (by omega) (λh a b=>P3 h n a b))) ?_)))))));refine V (dk E E xi) (V aA (xc (ah ?_)));refine⟨_,cS,?_⟩;rw[<-hs];rfl
theorem pG{x z:Int}(h1 : -200000<=x)(h2:x<=200000)(h3 : -200000<=z)(h4:z<=200000):0<=x*x/\x*x<=40000000000/\0<=z*z/\z*z<=40000000000:=by
 have sq:∀t:Int,-200000<=t->t<=200000->0<=t*t/\t*t<=40000000000:=λt a b=>by
  have m:=lX (a:=t) (b:=t) (A:=200000) (B:=200000) (by omega) (by omega) (by omega) (by omega);refine⟨?_,by omega⟩;rcases Int.le_total 0 t with q|q
  ·exact X2 q q
  ·have:=X2 (show 0<=-t by omega) (show 0<=-t by omega)
   rwa [Int.neg_mul_neg]at this
 exact⟨(sq x h1 h2).1,(sq x h1 h2).2,(sq z h3 h4).1,(sq z h3 h4).2⟩
structure OQ(r:Rg):Prop where
 a:0<=r.1
 b:r.1<=400000000
 c:0<=r.2
 d:r.2<=400000000
 e:r.1<=r.2
theorem Ae{x z:Int}(h1 : -200000<=x)(h2:x<=200000)(h3 : -200000<=z)(h4:z<=200000):OQ (oI x z):=by
 have⟨b1,b2,b3,b4⟩:=pG h1 h2 h3 h4;obtain⟨r1,r2,r3,r4⟩:=lq (n:=1000000*(x*x+z*z)) (by omega) (by omega);have h5:gk (1000000*(x*x+z*z))<300000000:=Sc (by omega) (by omega);unfold oI;refine⟨r1,by simp only;omega,?_,?_,?_⟩<;>simp only<;>split<;>omega
theorem Ct(x z:Int)(h1 : -200000<=x)(h2:x<=200000)(h3 : -200000<=z)(h4:z<=200000):PC qP 182 [.v (.int .i64 (x)),.v (.int .i64 (z))] (.agg [.v (.int .i64 ((oI x z).1)),.v (.int .i64 ((oI x z).2))]):=by
 have⟨b1,b2,b3,b4⟩:=pG h1 h2 h3 h4;obtain⟨r1,r2,r3,r4⟩:=lq (n:=1000000*(x*x+z*z)) (by omega) (by omega);have r5:=X2 r1 r1;refine av (qA func182 E) E ntmps182 results182 λw0=>ae (xa 0 (aw (bL gv E E E (ai (xq (xa 9 (V aF (V aF ?_))))))));refine V (cZ E E xi) (V aF (V aF ?_));refine V (cZ E E xi) ?_;refine V (lE E E xi) ?_;refine V (cZ E E xi) (V aA (rs (xa 3 (V aF (V (ak an7 (.cons E .nil) E (Uo _ (by omega) (by omega))) ?_)))));refine V (bz (cs:=[_,_]) qm gv E (.cons E E' .nil) ⟨⟨rfl,by decide⟩,trivial⟩ E) (aw (bL gv E E E (ay dM E E H' E E (by decide) E (ai (xq (xa 3 (V (aC eu E) (V (aQ mF E E E) (V (aC fw E) (aw (ay mF E E E' E E (by exact Nat.le_of_ble_eq_true E) E (ai (xq (ae (xa 7 (V (aC eu E) (V (aQ mF E E E) (V (aC eu E) (V (aQ mF E E E) ?_)))))))))))))))))));refine V (cZ E E xi) (V aF (V (cM E E) (xc (ao E (λeJ=>?_) (λeJ=>?_)))))
 ·(try simp only[nb,Xv]at eJ);have hz:(oI x z).2=gk (1000000*(x*x+z*z))+1:=by unfold oI;simp only;rw[Xu eJ]
  refine xa 4 (V (aC fw E) (V (aQ mF E E E) ?_));refine V (lE E E xi) (V (aC fw E) (aw (ay mF E E E' E E (by exact Nat.le_of_ble_eq_true E) E (ai (xq (xa 1 (V (aX (ds:=[_,_]) dM E E E E) (aw (ay dM E E H' E E (by decide) E (ai ?_))))))))));change dG _ _ _ _ _;refine ah ?_;refine⟨_,(.cons (.dn E E dM E) .nil),?_⟩;rw[hz];rfl
 ·(try simp only[nb,Xv]at eJ);have hz:(oI x z).2=gk (1000000*(x*x+z*z)):=by unfold oI;simp only;rw[Xr (by omega)]
  refine wO ?_;change dG _ _ _ _ _;refine ae (xa 1 (V (aX (ds:=[_,_]) dM E E E E) (aw (ay dM E E H' E E (by decide) E (ai ?_)))));change dG _ _ _ _ _;refine ah ?_;refine⟨_,(.cons (.dn E E dM E) .nil),?_⟩;rw[hz];rfl
theorem KA(r:Rg)(v:Int)(Y:OQ r)(h1:500<=v):PC qP 181 [.agg [.v (.int .i64 ((r).1)),.v (.int .i64 ((r).2))],.v (.int .i64 (v))] (.agg [.v (.int .i64 ((sf r v).1)),.v (.int .i64 ((sf r v).2))]):=by
 have⟨a1,a2,a3,a4,a5⟩:=Y;refine av (qA func181 E) E ntmps181 results181 λw0=>ae (xa 1 (V (aP E H') (aw (bL gv E E E (ai (xq (xa 11 (V (af eu E) (V (aj mF E E) ?_)))))))));refine V (cZ E E xi) (V aF ?_);refine V (ak NL (.cons E (.cons E .nil)) E (F7 _ _ ⟨by omega,by omega⟩ (by omega))) (V (af fw E) (V (aj mF E E) ?_));refine V (cZ E E xi) (V aF ?_);refine V (ak Dq (.cons E (.cons E .nil)) E (Kv _ _ ⟨by omega,by omega⟩ (by omega))) ?_;refine V (bz (cs:=[_,_]) qm gv E (.cons E E' (.cons E E' .nil)) ⟨⟨rfl,by decide⟩,⟨rfl,by decide⟩,trivial⟩ E) (aw (ay dM E E H' E E (by decide) E (ai ?_)));change dG _ _ _ _ _;refine ah ?_;refine⟨_,(.cons (.dn E E dM E) .nil),?_⟩;rfl
theorem LB(a b:Rg)(h1 : -1000000000000000<=a.1)(h2:a.1<=1000000000000000)(h3 : -1000000000000000<=b.1)(h4:b.1<=1000000000000000)(h5 : -1000000000000000<=a.2)(h6:a.2<=1000000000000000)(h7 : -1000000000000000<=b.2)(h8:b.2<=1000000000000000):PC qP 158 [.agg [.v (.int .i64 ((a).1)),.v (.int .i64 ((a).2))],.agg [.v (.int .i64 ((b).1)),.v (.int .i64 ((b).2))]] (.agg [.v (.int .i64 (((a.1+b.1,a.2+b.2)).1)),.v (.int .i64 (((a.1+b.1,a.2+b.2)).2))]):=by
 refine av (qA func158 E) E ntmps158 results158 λw0=>ae (xa 2 (V (aP E H') (V (aP E H') (aw (bL gv E E E (ai (xq (xa 11 (V (af eu E) (V (aj mF E E) (V (af eu E) (V (aj mF E E) ?_))))))))))));refine V (lE E E xi) (V (af fw E) (V (aj mF E E) (V (af fw E) (V (aj mF E E) ?_))));refine V (lE E E xi) ?_;refine V (bz (cs:=[_,_]) qm gv E (.cons E E' (.cons E E' .nil)) ⟨⟨rfl,by decide⟩,⟨rfl,by decide⟩,trivial⟩ E) (aw (ay dM E E H' E E (by decide) E (ai ?_)));change dG _ _ _ _ _;refine ah ?_;refine⟨_,(.cons (.dn E E dM E) .nil),?_⟩;rfl
theorem Mn(a:Nat)(ha:a<18446744073709551616):bits .and .u64 (a:Int) 4294967295=((a % 4294967296:Nat):Int):=by
 have h:=bits_and_u64_nat a 4294967295 ha (by omega);have e:a &&& 4294967295=a % 4294967296:=Nat.and_two_pow_sub_one_eq_mod a 32;rw[e]at h;exact h
theorem aF7(a:Nat):(a:Int) / 4294967296=((a / 4294967296:Nat):Int):=by omega
theorem ax0(a b:Nat):(a:Int)*(b:Int)=((a*b:Nat):Int):=(Zo a b).symm
theorem aG6(a b:Nat):(a:Int)+(b:Int)=((a+b:Nat):Int):=(Int.natCast_add a b).symm
theorem s9(a:Nat)(ha:a<18446744073709551616):IntKind.u64.wrap (a:Int)=(a:Int):=by rw[IntKind.wrap_u64];omega
theorem Xl(a:Nat):IntKind.u64.wrap (a:Int)=((a % 18446744073709551616:Nat):Int):=by rw[IntKind.wrap_u64];omega
set_option maxHeartbeats 1000000 in
theorem Qx(x y:Nat)(hx:x<18446744073709551616)(hy:y<18446744073709551616)(w:W') :
  Calls qP 187 #[.int .u64 x,.int .u64 y] w λe w'=>e=.returned (.tuple #[.int .u64 ((x*y / 18446744073709551616:Nat):Int),.int .u64 ((x*y % 18446744073709551616:Nat):Int)])/\w'=w:=by
 have⟨bd,bt,bw,hhi⟩:=Lib.mul64_hi x y hx hy;have ba:=Lib.half_mul_le (a:=x / 4294967296) (b:=y / 4294967296) (by omega) (by omega);have bb:=Lib.half_mul_le (a:=x / 4294967296) (b:=y % 4294967296) (by omega) (by omega);have bc:=Lib.half_mul_le (a:=x % 4294967296) (b:=y / 4294967296) (by omega) (by omega);have ba':x / 4294967296*(y / 4294967296)<18446744073709551616:=by omega
 have bb':x / 4294967296*(y % 4294967296)<18446744073709551616:=by omega
 have bc':x % 4294967296*(y / 4294967296)<18446744073709551616:=by omega
 have bh1:x / 4294967296*(y / 4294967296)+(x / 4294967296*(y % 4294967296)+x % 4294967296*(y % 4294967296) / 4294967296) / 4294967296<18446744073709551616:=by omega
 have bh:x / 4294967296*(y / 4294967296)+(x / 4294967296*(y % 4294967296)+x % 4294967296*(y % 4294967296) / 4294967296) / 4294967296+((x / 4294967296*(y % 4294967296)+x % 4294967296*(y % 4294967296) / 4294967296) % 4294967296+x % 4294967296*(y / 4294967296)) / 4294967296<18446744073709551616:=by omega
 go_enter (qA func187 E),ntmps187
 go_wp2
 simp only[Mn x hx,Mn y hy,aF7,ax0,aG6,s9 _ bd,s9 _ bb',s9 _ bt,Mn _ bt,s9 _ bc',s9 _ bw,s9 _ ba',s9 _ bh1,s9 _ bh,Xl (x*y)];rw[hhi]
 go_ret2
 exact⟨rfl,rfl⟩
theorem P6{w:W'}{ok:Nat->Prop}{cs:List D}{vs:List Z3}(h:oq w ok cs vs):iN w ok (.da cs) (.tuple vs.toArray):=
 .da cs vs h.length λj d v h1 h2=>h.get j d v h1 h2
def CU(p:Int):Int:=p / 18446744073709551616
def xu(p:Int):Int:=p % 18446744073709551616
theorem Qw(x y:Int)(h1:0<=x)(h2:x<18446744073709551616)(h3:0<=y)(h4:y<18446744073709551616):PC qP 187 [.v (.int .u64 x),.v (.int .u64 y)] (.da [.v (.int .u64 (CU (x*y))),.v (.int .u64 (xu (x*y)))]):=by
 intro w ok vs hL
 match vs,hL with
 | [v,v'],⟨k1,k2,_⟩=>
  rw[iN.c8 k1,iN.c8 k2];obtain⟨a,rfl⟩:=Int.eq_ofNat_of_zero_le h1;obtain⟨b,rfl⟩:=Int.eq_ofNat_of_zero_le h3;refine(Qx a b (by omega) (by omega) w).mono ?_;rintro e w' ⟨rfl,rfl⟩;have e1:CU ((a:Int)*(b:Int))=((a*b / 18446744073709551616:Nat):Int):=by unfold CU;rw[<-Zo];omega
  have e2:xu ((a:Int)*(b:Int))=((a*b % 18446744073709551616:Nat):Int):=by unfold xu;rw[<-Zo];omega
  rw[e1,e2];exact⟨_,rfl,Ext.refl _,P6 (vs:=[.int .u64 _,.int .u64 _]) ⟨.v _ E,.v _ E,trivial⟩⟩
theorem GQ(a b:Int)(h1:0<=a)(h2:a<=9223372036854775807)(h3:0<=b)(h4:b<=9223372036854775807):PC qP 184 [.v (.int .i64 (a)),.v (.int .i64 (b))] (.agg [.v (.int .u64 (CU (a*b))),.v (.int .u64 (xu (a*b)))]):=by
 refine av (qA func184 E) E ntmps184 results184 λw0=>ae (xa 0 (aw (bL GF E E E (ai (xq (xa 10 (V aF (V (ur vU SC E (u64_in (by omega) (by omega))) (V aF (V (ur vU SC E (u64_in (by omega) (by omega))) (V (ak an6 (.cons E (.cons E .nil)) E (Qw _ _ (by omega) (by omega) (by omega) (by omega))) (V (aq (x:=.d (.da _)) E) (V (au E E) (V (au E E) (V aA (V aA (rs (xa 3 (V aF (V aF ?_))))))))))))))))))));refine V (bz (cs:=[_,_]) ae2 GF E (.cons E E' (.cons E E' .nil)) ⟨⟨rfl,by decide⟩,⟨rfl,by decide⟩,trivial⟩ E) (aw (ay te E E H' E E (by decide) E (ai ?_)));change dG _ _ _ _ _;refine ah ?_;refine⟨_,(.cons (.dn E E te E) .nil),?_⟩;rfl
theorem Q0(a:Int):a=CU a*18446744073709551616+xu a/\0<=xu a/\xu a<18446744073709551616:=by unfold CU xu;omega
theorem JJ(a b:Int):PC qP 185 [.agg [.v (.int .u64 (CU (a))),.v (.int .u64 (xu (a)))],.agg [.v (.int .u64 (CU (b))),.v (.int .u64 (xu (b)))]] (.v (.int .i64 (mz a b))):=by
 have⟨a1,a2,a3⟩:=Q0 a;have⟨b1,b2,b3⟩:=Q0 b;refine av (qA func185 E) E ntmps185 results185 λw0=>ae (xa 3 (V (aP E H') (V (aP E H') (V aA (rs (az (ae (xa 4 (V (ax (ds:=[_,_]) te E E E) (V (ax (ds:=[_,_]) te E E E) (V (Uz (xs:=[_,_]) (ys:=[_,_]) VH E E E E) (V aA (xc (ao E (λbW=>?_) (λbW=>?_)))))))))))))))
 ·(try simp only[nb,Xv]at bW);have hz:mz a b=0:=by unfold mz;rw[Xu (by simp at bW;omega)]
  refine ae (xa 1 (V aA (xc (ah ?_))));refine⟨_,cS,?_⟩;rw[hz];rfl
 ·(try simp only[nb,Xv]at bW);have eW:¬a=b:=λe=>by subst e;simp at bW
  refine ae (xa 20 (V (af ra E) (V (aj ID E E) (V (af ra E) (V (aj ID E E) (V (cM E E) (V aF (aE E E (λhG=>(af ra E)) (aE E E (λhG=>(aj ID E E)) (aE E E (λhG=>(af ra E)) (aE E E (λhG=>(aj ID E E)) (aE E E (λhG=>(fG E E)) (aE E E (λhG=>aF) (aE E E (λhG=>(af Dc E)) (aE E E (λhG=>(aj ID E E)) (aE E E (λhG=>(af Dc E)) (aE E E (λhG=>(aj ID E E)) (aE E E (λhG=>(cM E E)) (vb E E E E E E E E ?_)))))))))))))))))));refine aT E E E E E E ?_;refine V aA (xc (ao E (λdB=>?_) (λdB=>?_)))
  ·(try simp only[nb,Xv]at dB);have hz:mz a b = -1:=by unfold mz;rw[Xr eW,Xu (by omega)]
   refine ae (xa 1 (V aA (xc (ah ?_))));refine⟨_,cS,?_⟩;rw[hz];rfl
  ·(try simp only[nb,Xv]at dB);have hz:mz a b=1:=by unfold mz;rw[Xr eW,Xr (by omega)]
   refine wO ?_;change dG _ _ _ _ _;refine ae (xa 1 (V aA (xc (ah ?_))));refine⟨_,cS,?_⟩;rw[hz];rfl
theorem qb{t v h:Int}(t1 : -200000<=t)(t2:t<=200000)(v1:500<=v)(v2:v<=10000)(h1:1<=h)(h2:h<=100000) :
  (-2000000000<=t*v/\t*v<=2000000000)/\(-400000000000000<=t*v*t/\t*v*t<=400000000000000)/\(0<=t*v*t*v/\t*v*t*v<=4000000000000000000)/\(0<=t*t/\t*t<=40000000000)/\(0<=h*h/\h*h<=10000000000):=by
 have m1:=lX (a:=t) (b:=v) (A:=200000) (B:=10000) (by omega) (by omega) (by omega) (by omega);have m2:=lX (a:=t*v) (b:=t) (A:=2000000000) (B:=200000) (by omega) (by omega) (by omega) (by omega);have m3:=lX (a:=t*v*t) (b:=v) (A:=400000000000000) (B:=10000) (by omega) (by omega) (by omega) (by omega);obtain⟨b1,b2,b3,b4⟩:=pG (x:=t) (z:=h) t1 t2 (by omega) (by omega);have m4:=lX (a:=h) (b:=h) (A:=100000) (B:=100000) (by omega) (by omega) (by omega) (by omega);have e:t*v*t*v=(t*v)*(t*v):=by grind
 have n:0<=(t*v)*(t*v):=by
  rcases Int.le_total 0 (t*v) with q|q
  ·exact X2 q q
  ·have:=X2 (show 0<=-(t*v) by omega) (show 0<=-(t*v) by omega)
   rwa [Int.neg_mul_neg]at this
 refine⟨by omega,by omega,by omega,⟨b1,b2⟩,b3,by omega⟩
theorem PV(x:ue)(t:Int)(hx:nH x)(h1 : -100000<=t)(h2:t<=100000):PC qP 180 [.agg (xJ x),.v (.int .i64 (t))] (.v (.int .i64 (fZ x t))):=by
 have⟨a1,a2,b1,b2,c1,c2,d1,d2,e1,e2,f1,f2⟩:=hx;obtain⟨p1,p2,p3,p4,p5⟩:=qb (t:=t - x.x1) (v:=x.v2) (h:=x.h1) (by omega) (by omega) f1 f2 c1 c2;obtain⟨q1,q2,q3,q4,q5⟩:=qb (t:=x.x2 - t) (v:=x.v1) (h:=x.h2) (by omega) (by omega) e1 e2 d1 d2;have hs : -1<=mz (tT x t) (tP x t)/\mz (tT x t) (tP x t)<=1:=by unfold mz;split<;>(try split)<;>omega
 refine av (qA func180 E) E ntmps180 results180 λw0=>ae (xa 2 (V (aP E H') (V aA (rs (xa 12 (V aF (V (af pZ E) (V (af nx E) (V (aj mF E E) ?_)))))))));refine V (dk E E xi) (V (af pZ E) (V (af nq E) (V (aj mF E E) (V aF ?_))));refine V (dk E E xi) (V aA (V aA (rs (xa 23 (V aF (V (af pZ E) (V (af nj E) (V (aj mF E E) ?_))))))));refine V (cZ E E xi) (V aF ?_);refine V (cZ E E xi) (V (af pZ E) (V (af nj E) (V (aj mF E E) ?_)));refine V (cZ E E xi) (V aF (V aF ?_));refine V (cZ E E xi) (V (af pZ E) (V (af np E) (V (aj mF E E) (V (af pZ E) (V (af np E) (V (aj mF E E) ?_))))));refine V (cZ E E xi) ?_;refine V (lE E E xi) (V (ak S8 (.cons E (.cons E .nil)) E (GQ _ _ (by omega) (by omega) (by omega) (by omega))) (aw (bL GF E E E (ay te E E H' E E (by decide) E (ai (xq (xa 23 (V aF (V (af pZ E) (V (af nt E) (V (aj mF E E) ?_)))))))))));refine V (cZ E E xi) (V aF ?_);refine V (cZ E E xi) (V (af pZ E) (V (af nt E) (V (aj mF E E) ?_)));refine V (cZ E E xi) (V aF (V aF ?_));refine V (cZ E E xi) (V (af pZ E) (V (af nu E) (V (aj mF E E) (V (af pZ E) (V (af nu E) (V (aj mF E E) ?_))))));refine V (cZ E E xi) ?_;refine V (lE E E xi) (V (ak S8 (.cons E (.cons E .nil)) E (GQ _ _ (by omega) (by omega) (by omega) (by omega))) (aw (bL GF E E E (ay te E E H' E E (by decide) E (ai (xq (xa 4 (V (aX (ds:=[_,_]) te E E E E) (V (aX (ds:=[_,_]) te E E E E) (V (ak an8 (.cons E (.cons E .nil)) E (JJ (tT x t) (tP x t))) (V aA (rs (ae (xa 7 (V (af pZ E) (V (af nq E) (V (aj mF E E) (V (af pZ E) (V (af nx E) (V (aj mF E E) (V (cM E E) (xc (ao E (λeU=>?_) (λeU=>?_))))))))))))))))))))))))
 ·(try simp only[nb,Xv]at eU);have hz:fZ x t = -(mz (tT x t) (tP x t)):=by unfold fZ;rw[Xu eU]
  refine xa 3 (V aF ?_);refine V (tw E xi) (V aA (rs (xa 2 (V aF (V aA (xc (ah ?_)))))));refine⟨_,cS,?_⟩;rw[hz];rfl
 ·(try simp only[nb,Xv]at eU);have hz:fZ x t=mz (tT x t) (tP x t):=by unfold fZ;rw[Xr (by omega)]
  refine wO ?_;change dG _ _ _ _ _;refine ae (xa 2 (V aF (V aA (xc (ah ?_)))));refine⟨_,cS,?_⟩;rw[hz];rfl
theorem NI(x:ue):PC qP 177 [.agg (xJ x)] (.da [.v (.int .i64 (je x)),.v (.int .i64 (ub x))]):=by
 refine av (qA func177 E) E ntmps177 results177 λw0=>ae (xa 3 (V (aP E H') (V aA (V aA (rs (xa 16 (V (af pZ E) (V (af nx E) (V (aj mF E E) (V (af pZ E) (V (af nq E) (V (aj mF E E) (V (tx E E) (V (af pZ E) (V (af nx E) (V (aj mF E E) (V (af pZ E) (V (af nq E) (V (aj mF E E) (V (vg E E) (V aA (V aA (xc (ah ?_))))))))))))))))))))))));refine⟨_,gz,?_⟩;rfl
theorem ak4(x:ue)(t:Int):PC qP 172 [.agg (xJ x),.v (.int .i64 (t))] (.v (.bool (dP (je x) t (ub x)))):=by
 refine av (qA func172 E) E ntmps172 results172 λw0=>ae (xa 2 (V (aP E H') (V aA (rs (xa 7 (V (ax (ds:=[_,_,_,_,_,_]) gh E E E) (V (ak Tc (.cons E .nil) E (NI _)) (V (aq (x:=.d (.da _)) E) (V (au E E) (V (au E E) (V aA (V aA (rs (xa 5 (V aF (V aF (V aF (V (ak yY (.cons E (.cons E (.cons E .nil))) E (jj _ _ _)) (V aA (xc (ah ?_)))))))))))))))))))));refine⟨_,cS,?_⟩;rfl
theorem N7(x:ue)(n:Int)(hx:nH x)(h1:0<=n)(h2:n<ub x - je x+1):PC qP 179 [.v (.int .i64 (n)),.pt (xJ x) 0,.pt [.v (.int .i64 (je x))] 0] (.v (.bool (decide (0<fZ x (je x+n))))):=by
 have Ep:=hx;have⟨a1,a2,b1,b2,c1,c2,d1,d2,e1,e2,f1,f2⟩:=Ep;have hl : -100000<=je x/\ub x<=100000:=by unfold je ub;omega
 refine av (qA func179 E) E ntmps179 results179 λw0=>ae (xa 1 (V aA (rs (xa 7 (V (ax (ds:=[_,_,_,_,_,_]) gh E E E) (V (aj mF E E) (V aF ?_)))))));refine V (lE E E xi) (V (ak ao0 (.cons E (.cons E .nil)) E (PV _ _ hx (by omega) (by omega))) (V (gM E E) (V aA (xc (ah ?_)))));refine⟨_,cS,?_⟩;rfl
theorem Ga(x:ue)(hx:nH x):PC qP 170 [.agg (xJ x)] (.v (.int .i64 (cR x))):=by
 have Ep:=hx;have⟨a1,a2,b1,b2,c1,c2,d1,d2,e1,e2,f1,f2⟩:=Ep;have hl : -100000<=je x/\je x<=ub x/\ub x<=100000:=by unfold je ub;omega
 have hs:=pP hx;have hcr:cR x=je x - 1+BI (λn=>decide (0<fZ x (je x+n))) (ub x - je x+1):=rfl;refine aY (qA func170 E) E ntmps170 results170 λw0 bQ cH iK=>ae (xa 2 (V (aP E H') (V aA (rs (xa 5 (V (ax (ds:=[_,_,_,_,_,_]) gh E E E) (V (ak Tc (.cons E .nil) E (NI _)) (V (aq (x:=.d (.da _)) E) (V (au E E) (V (au E E) (aw (bL Br E E E (ay mF E E E' E E (by decide) E (aN E aA (ai (xq (dG.le (nZ 3 3 0 (cs:=[.v (.int .i64 (je x))]) E E E E bQ) ?_)))))))))))))))));refine xa 10 (V (aj mF E E) ?_);refine V (dk E E xi) (V aF (V (aj mF E E) ?_));refine V (dk E E xi) ?_;refine V (lE E E xi) (V (jw (.cons E (.cons E .nil))) (V (ak Tb (.cons E (.cons E .nil)) E (BS (λn=>decide (0<fZ x (je x+n))) 179 [.pt (xJ x) 0,.pt [.v (.int .i64 (je x))] 0] ao1 (ub x - je x+1) (by omega) (λh a b=>N7 x h hx a b))) ?_));refine V (lE E E xi) (V aA (xc (ah ?_)));refine⟨_,cS,?_⟩;rfl
structure OJ(r:Rg):Prop where
 a:0<=r.1
 b:r.1<=20000000000
 c:0<=r.2
 d:r.2<=20000000000
theorem zq{r:Rg}{v:Int}(Y:OQ r)(h1:500<=v):0<=(sf r v).1/\(sf r v).1<=8000000000/\0<=(sf r v).2/\(sf r v).2<=8000000000:=by
 obtain⟨a,b,c,d,e⟩:=Y;have hv:0<v:=by omega
 have k:∀n:Int,0<=n->n<=400000000->0<=n*10000 / v/\n*10000 / v<=8000000000:=λn h0 h2=>by
  refine⟨Int.ediv_nonneg (by omega) (by omega),?_⟩;have:=Int.ediv_le_ediv hv (show n*10000<=8000000000*v by omega);rwa [Int.mul_ediv_cancel _ (by omega)]at this
 have k2:∀n:Int,0<=n->n<=400000000->0<=pb (n*10000) v/\pb (n*10000) v<=8000000000:=λn h0 h2=>by
  unfold pb;constructor
  ·have:=Int.ediv_le_ediv hv (show -(n*10000)<=0 by omega)
   rw[Int.zero_ediv]at this;omega
  ·have:=Int.ediv_le_ediv hv (show (-8000000000)*v<=-(n*10000) by omega)
   rw[Int.mul_ediv_cancel _ (by omega)]at this;omega
 unfold sf;exact⟨(k _ a b).1,(k _ a b).2,(k2 _ c d).1,(k2 _ c d).2⟩
theorem nM{x:ue}{t:Int}(hx:nH x)(h1 : -100000<=t)(h2:t<=100000):OJ (um x t):=by
 have⟨a1,a2,b1,b2,c1,c2,d1,d2,e1,e2,f1,f2⟩:=hx;obtain⟨p1,p2,p3,p4⟩:=zq (Ae (x:=t - x.x1) (z:=x.h1) (by omega) (by omega) (by omega) (by omega)) e1;obtain⟨q1,q2,q3,q4⟩:=zq (Ae (x:=x.x2 - t) (z:=x.h2) (by omega) (by omega) (by omega) (by omega)) f1;unfold um;exact⟨by simp only;omega,by simp only;omega,by simp only;omega,by simp only;omega⟩
theorem BC(x:ue)(t:Int)(hx:nH x)(h1 : -100000<=t)(h2:t<=100000):PC qP 171 [.agg (xJ x),.v (.int .i64 (t))] (.agg [.v (.int .i64 ((um x t).1)),.v (.int .i64 ((um x t).2))]):=by
 have⟨a1,a2,b1,b2,c1,c2,d1,d2,e1,e2,f1,f2⟩:=hx;have l1:=Ae (x:=t - x.x1) (z:=x.h1) (by omega) (by omega) (by omega) (by omega);have l2:=Ae (x:=x.x2 - t) (z:=x.h2) (by omega) (by omega) (by omega) (by omega);have⟨p1,p2,p3,p4⟩:=zq l1 e1;have⟨q1,q2,q3,q4⟩:=zq l2 f1;refine av (qA func171 E) E ntmps171 results171 λw0=>ae (xa 1 (V (aP E H') (aw (bL gv E E E (ai (xq (xa 27 (V aF (V (af pZ E) (V (af nx E) (V (aj mF E E) ?_)))))))))));refine V (dk E E xi) (V (af pZ E) (V (af nu E) (V (aj mF E E) (V (ak S9 (.cons E (.cons E .nil)) E (Ct _ _ (by omega) (by omega) (by omega) (by omega))) (V (af pZ E) (V (af nt E) (V (aj mF E E) (V (ak Ta (.cons E (.cons E .nil)) E (KA (oI (t - x.x1) x.h1) x.v1 l1 e1)) (V (af pZ E) (V (af nq E) (V (aj mF E E) (V aF ?_))))))))))));refine V (dk E E xi) (V (af pZ E) (V (af np E) (V (aj mF E E) (V (ak S9 (.cons E (.cons E .nil)) E (Ct _ _ (by omega) (by omega) (by omega) (by omega))) (V (af pZ E) (V (af nj E) (V (aj mF E E) (V (ak Ta (.cons E (.cons E .nil)) E (KA (oI (x.x2 - t) x.h2) x.v2 l2 f1)) (V (ak Tl (.cons E (.cons E .nil)) E (LB (sf (oI (t - x.x1) x.h1) x.v1) (sf (oI (x.x2 - t) x.h2) x.v2) (by omega) (by omega) (by omega) (by omega) (by omega) (by omega) (by omega) (by omega))) (aw (ay dM E E H' E E (by decide) E (ai ?_))))))))))));change dG _ _ _ _ _;refine ah ?_;refine⟨_,(.cons (.dn E E dM E) .nil),?_⟩;rfl
theorem GM{n d:Int}(hn:0<=n)(J:0<d):0<=pb n d/\pb n d<=n:=by
 unfold pb;have h1:=Int.ediv_le_ediv J (show -n<=0 by omega);rw[Int.zero_ediv]at h1;refine⟨by omega,?_⟩
 have h2:(-n)<=(-n) / d:=by
  rw[Int.le_ediv_iff_mul_le J];have:=Zj (show (1:Int)<=d by omega) hn
  grind
 omega
theorem vC{x:ue}(hx:nH x):OJ (jy x):=by
 have hs:=pP hx;have Ep:=hx;have⟨a1,a2,b1,b2,c1,c2,d1,d2,e1,e2,f1,f2⟩:=Ep;have hl : -100000<=je x/\ub x<=100000:=by unfold je ub;omega
 obtain⟨p1,p2,p3,p4⟩:=nM (t:=cR x) hx (by omega) (by omega);have u1:=GM (n:=10000000) (d:=x.v1*x.h1) (by omega) (Int.mul_pos (by omega) (by omega));have u2:=GM (n:=10000000) (d:=x.v2*x.h2) (by omega) (Int.mul_pos (by omega) (by omega))
 have h0:0<=(jz x).1/\(jz x).1<=20000000000/\0<=(jz x).2/\(jz x).2<=20000000000:=by
  unfold jz
  split
  ·rename_i h
   simp[dP]at h;obtain⟨q1,q2,q3,q4⟩:=nM (t:=cR x+1) hx (by omega) (by omega);simp only;omega
  ·omega
 unfold jy;exact⟨by simp only;omega,by simp only;omega,by simp only;omega,by simp only;omega⟩
theorem Af(x:ue)(hx:nH x):PC qP 159 [.agg (xJ x)] (.agg [.v (.int .i64 ((jy x).1)),.v (.int .i64 ((jy x).2))]):=by
 have hs:=pP hx;have Ep:=hx;have⟨a1,a2,b1,b2,c1,c2,d1,d2,e1,e2,f1,f2⟩:=Ep;have hl : -100000<=je x/\ub x<=100000:=by unfold je ub;omega
 obtain⟨p1,p2,p3,p4⟩:=nM (t:=cR x) hx (by omega) (by omega);have m1:=lX (a:=x.v1) (b:=x.h1) (A:=10000) (B:=100000) (by omega) (by omega) (by omega) (by omega);have m2:=lX (a:=x.v2) (b:=x.h2) (A:=10000) (B:=100000) (by omega) (by omega) (by omega) (by omega);have m3:=Int.mul_pos (show 0<x.v1 by omega) (show 0<x.h1 by omega);have m4:=Int.mul_pos (show 0<x.v2 by omega) (show 0<x.h2 by omega);have u1:=GM (n:=10000000) (d:=x.v1*x.h1) (by omega) m3;have u2:=GM (n:=10000000) (d:=x.v2*x.h2) (by omega) m4;refine av (qA func159 E) E ntmps159 results159 λw0=>ae (xa 1 (V (aP E H') (aw (bL gv E E E (ai (xq (xa 3 (V (ax (ds:=[_,_,_,_,_,_]) gh E E E) (V (ak ao4 (.cons E .nil) E (Ga _ hx)) (V aA (rs (xa 3 (V (ax (ds:=[_,_,_,_,_,_]) gh E E E) (V aF (V (ak Te (.cons E (.cons E .nil)) E (BC _ _ hx (by omega) (by omega))) (aw (bL gv E E E (ay dM E E H' E E (by decide) E (ai (xq (ae (xa 4 (V (ax (ds:=[_,_,_,_,_,_]) gh E E E) (V aF ?_))))))))))))))))))))))));refine V (lE E E xi) (V (ak ao3 (.cons E (.cons E .nil)) E (ak4 _ _)) (xc (ao E (λdB=>?_) (λdB=>?_))))
 ·(try simp only[nb,Xv]at dB);have hz:jz x=(min (um x (cR x)).1 (um x (cR x+1)).1,min (um x (cR x)).2 (um x (cR x+1)).2):=by unfold jz;rw[Xu dB]
  have aB8:=dB;simp[dP]at aB8;obtain⟨q1,q2,q3,q4⟩:=nM (t:=cR x+1) hx (by omega) (by omega);refine ae (xa 4 (V (ax (ds:=[_,_,_,_,_,_]) gh E E E) (V aF ?_)));refine V (lE E E xi) (V (ak Te (.cons E (.cons E .nil)) E (BC _ _ hx (by omega) (by omega))) (aw (bL gv E E E (ay dM E E H' E E (by decide) E (ai ?_)))));change dG _ _ _ _ _;refine xa 11 (V (aC eu E) (V (aQ mF E E E) (V (aC eu E) (V (aQ mF E E E) (V (tx E E) (V (aC fw E) (V (aQ mF E E E) (V (aC fw E) (V (aQ mF E E E) (V (tx E E) ?_))))))))));refine V (bz (cs:=[_,_]) qm gv E (.cons E E' (.cons E E' .nil)) ⟨⟨rfl,by decide⟩,⟨rfl,by decide⟩,trivial⟩ E) (aw (ay dM E E H' E E (by exact Nat.le_of_ble_eq_true E) E (ai (xq (xa 22 (V (aC eu E) (V (aQ mF E E E) (V (af pZ E) (V (af nt E) (V (aj mF E E) (V (af pZ E) (V (af nu E) (V (aj mF E E) ?_)))))))))))));refine V (cZ E E xi) ?_;refine V (ak Dq (.cons E (.cons E .nil)) E (Kv _ _ ⟨by omega,by omega⟩ (by omega))) ?_;refine V (dk E E xi) (V (af pZ E) (V (af nj E) (V (aj mF E E) (V (af pZ E) (V (af np E) (V (aj mF E E) ?_))))));refine V (cZ E E xi) ?_;refine V (ak Dq (.cons E (.cons E .nil)) E (Kv _ _ ⟨by omega,by omega⟩ (by omega))) ?_;refine V (dk E E xi) (V (vg E E) (V (aC eu E) (aw (ay mF E E E' E E (by exact Nat.le_of_ble_eq_true E) E (ai (xq (xa 1 (V (aX (ds:=[_,_]) dM E E E E) (aw (ay dM E E H' E E (by decide) E (ai ?_)))))))))));change dG _ _ _ _ _;refine ah ?_;refine⟨_,(.cons (.dn E E dM E) .nil),?_⟩;unfold jy;rw[hz];rfl
 ·(try simp only[nb,Xv]at dB);have hz:jz x=um x (cR x):=by unfold jz;rw[Xr (by simpa using dB)]
  refine wO ?_;change dG _ _ _ _ _;refine ae (xa 22 (V (aC eu E) (V (aQ mF E E E) (V (af pZ E) (V (af nt E) (V (aj mF E E) (V (af pZ E) (V (af nu E) (V (aj mF E E) ?_)))))))));refine V (cZ E E xi) ?_;refine V (ak Dq (.cons E (.cons E .nil)) E (Kv _ _ ⟨by omega,by omega⟩ (by omega))) ?_;refine V (dk E E xi) (V (af pZ E) (V (af nj E) (V (aj mF E E) (V (af pZ E) (V (af np E) (V (aj mF E E) ?_))))));refine V (cZ E E xi) ?_;refine V (ak Dq (.cons E (.cons E .nil)) E (Kv _ _ ⟨by omega,by omega⟩ (by omega))) ?_;refine V (dk E E xi) (V (vg E E) (V (aC eu E) (aw (ay mF E E E' E E (by exact Nat.le_of_ble_eq_true E) E (ai (xq (xa 1 (V (aX (ds:=[_,_]) dM E E E E) (aw (ay dM E E H' E E (by decide) E (ai ?_)))))))))));change dG _ _ _ _ _;refine ah ?_;refine⟨_,(.cons (.dn E E dM E) .nil),?_⟩;unfold jy;rw[hz];rfl
structure Md where
 w:Int
 m:Int
 k:Int
 t:Int
def O6(x:Md):List D:=[.v (.int .i64 x.w),.v (.int .i64 x.m),.v (.int .i64 x.k),.v (.int .i64 x.t)]
def gw(v:Int):Int:=g9 (dP 500 v 10000) 2
def gP(m:Md):Int:=firstE [gw m.w,gw m.m,g9 (dP 0 m.k 4&&dP 2 m.t 20000) 2]
def KX(p:Int × Int):Bool:=dP (-100000) p.1 100000&&dP (-100000) p.2 100000
def iT(p:Int × Int):Int:=g9 (KX p) 2
theorem gE{b:Bool}{e:Int}(he:e≠0):g9 b e=0↔b=true:=by unfold g9;split<;>simp_all
theorem fe:∀{l:List Int},firstE l=0↔∀x∈l,x=0
 | []=>by simp[firstE]
 | x::xs=>by
  unfold firstE;by_cases h:x=0
  ·rw[Xu h,fe];simp[h]
  ·rw[Xr h];simp[h]
structure sY(m:Md):Prop where
 w1:500<=m.w
 w2:m.w<=10000
 m1:500<=m.m
 m2:m.m<=10000
 k1:0<=m.k
 k2:m.k<=4
 t1:2<=m.t
 t2:m.t<=20000
theorem nV{m:Md}:gP m=0↔sY m:=by
 unfold gP gw;rw[fe];simp only[Xy,XG,Yn,ZE,forall_eq,gE (show (2:Int)≠0 by omega),dP,Xs,XW];exact⟨λ⟨⟨a,b⟩,⟨c,d⟩,⟨e,f⟩,g,h⟩=>⟨a,b,c,d,e,f,g,h⟩,λ⟨a,b,c,d,e,f,g,h⟩=>⟨⟨a,b⟩,⟨c,d⟩,⟨e,f⟩,g,h⟩⟩
theorem nP{p:Int × Int}:iT p=0↔(-100000<=p.1/\p.1<=100000)/\-100000<=p.2/\p.2<=100000:=by
 unfold iT KX;rw[gE (by omega)];simp[dP]
theorem Jm(n:Int):PC qP 164 [.v (.int .i64 (n))] (.v (.bool (dP 2 n 20000))):=by
 refine av (qA func164 E) E ntmps164 results164 λw0=>ae (xa 1 (V aA (rs (xa 3 (V aF (V (ak yY (.cons E (.cons E (.cons E .nil))) E (jj _ _ _)) (V aA (xc (ah ?_)))))))));refine⟨_,cS,?_⟩;rfl
theorem uU(v:Int):PC qP 161 [.v (.int .i64 (v))] (.v (.int .i64 (gw v))):=by
 refine av (qA func161 E) E ntmps161 results161 λw0=>ae (xa 1 (V aA (rs (xa 4 (V aF (V (ak yY (.cons E (.cons E (.cons E .nil))) E (jj _ _ _)) (V (ak Dr (.cons E (.cons E .nil)) E (vz _ _)) (V aA (xc (ah ?_))))))))));refine⟨_,cS,?_⟩;rfl
theorem iM(m:Md):PC qP 145 [.agg (O6 m)] (.v (.int .i64 (gP m))):=by
 refine av (qA func145 E) E ntmps145 results145 λw0=>ae (xa 2 (V (aP E H') (V aA (rs (xa 18 (V (af AL E) (V (aj mF E E) (V (ak Ti (.cons E .nil) E (uU _)) (V (af AK E) (V (aj mF E E) (V (ak Ti (.cons E .nil) E (uU _)) (V (af rf E) (V (aj mF E E) (V (ak yY (.cons E (.cons E (.cons E .nil))) E (jj _ _ _)) (V aF (aE E E (λhG=>(af fD E)) (aE E E (λhG=>(aj mF E E)) (aE E E (λhG=>(ak ao6 (.cons E .nil) E (Jm _))) (aT E E E E E E ?_)))))))))))))))))));refine V (ak Dr (.cons E (.cons E .nil)) E (vz _ _)) (V (bu oT EA E E (by decide) (.cons E E' (.cons E E' (.cons E E' .nil))) ⟨rfl,rfl,rfl,rfl,rfl,rfl,trivial⟩ E (by decide) E) (V (ak NO (.cons E .nil) E (vc [_,_,_])) (V aA (xc (ah ?_)))));refine⟨_,cS,?_⟩;simp only[gX];rfl
theorem u7(p:Int × Int):PC qP 168 [.agg (wq p)] (.v (.int .i64 (iT p))):=by
 refine av (qA func168 E) E ntmps168 results168 λw0=>ae (xa 2 (V (aP E H') (V aA (rs (xa 10 (V (af gU E) (V (aj mF E E) (V (ak Td (.cons E (.cons E .nil)) E (BU _ _ (by omega) (by omega))) (V aF (aE E E (λhG=>(af dQ E)) (aE E E (λhG=>(aj mF E E)) (aE E E (λhG=>(ak Td (.cons E (.cons E .nil)) E (BU _ _ (by omega) (by omega)))) (aT E E E E E E ?_)))))))))))));refine V (ak Dr (.cons E (.cons E .nil)) E (vz _ _)) (V aA (xc (ah ?_)));refine⟨_,cS,?_⟩;simp only[gX];rfl
def tO(m:Md)(z:Int):Int:=if m.k.tmod 2=1 then m.k*m.t+(m.t - z) else m.k*m.t+z
theorem yD{m:Md}(h:sY m):0<=m.k*m.t/\m.k*m.t<=80000:=by
 have⟨_,_,_,_,k1,k2,t1,t2⟩:=h;have:=lX (a:=m.k) (b:=m.t) (A:=4) (B:=20000) (by omega) (by omega) (by omega) (by omega);exact⟨X2 k1 (by omega),by omega⟩
theorem EH(m:Md)(z:Int)(hm:sY m)(h1 : -100000<=z)(h2:z<=100000):PC qP 169 [.agg (O6 m),.v (.int .i64 (z))] (.v (.int .i64 (tO m z))):=by
 have⟨b1,b2⟩:=yD hm;obtain⟨w1,w2,m1,m2,k1,k2,t1,t2⟩:=hm;refine av (qA func169 E) E ntmps169 results169 λw0=>ae (xa 2 (V (aP E H') (V aA (rs (ae (xa 4 (V (af rf E) (V (aj mF E E) (V (yo E E (by omega)) (V (fG E E) (xc (ao E (λbW=>?_) (λbW=>?_)))))))))))))
 ·(try simp only[nb,Xv]at bW);have hz:tO m z=m.k*m.t+(m.t - z):=by unfold tO;rw[Xu bW]
  refine xa 5 (V (af fD E) (V (aj mF E E) (V aF ?_)));refine V (dk E E xi) (V aA (rs (xa 8 (V (af rf E) (V (aj mF E E) (V (af fD E) (V (aj mF E E) ?_)))))));refine V (cZ E E xi) (V aF ?_);refine V (lE E E xi) (V aA (xc (ah ?_)));refine⟨_,cS,?_⟩;rw[hz];rfl
 ·(try simp only[nb,Xv]at bW);have hz:tO m z=m.k*m.t+z:=by unfold tO;rw[Xr (by simpa using bW)]
  refine wO ?_;change dG _ _ _ _ _;refine ae (xa 8 (V (af rf E) (V (aj mF E E) (V (af fD E) (V (aj mF E E) ?_)))));refine V (cZ E E xi) (V aF ?_);refine V (lE E E xi) (V aA (xc (ah ?_)));refine⟨_,cS,?_⟩;rw[hz];rfl
def MN(m:Md)(a b:Int × Int):Int:=firstE [iT a,iT b,g9 (decide (a.2<0)) 15,g9 (dP 1 b.2 (m.t - 1)) 22]
def N6:ue:=⟨0,0,0,0,0,0⟩
def lb(m:Md)(a b:Int × Int):ue × Int:=if MN m a b≠0 then (N6,MN m a b) else if 100000<tO m b.2 then (N6,8) else (⟨a.1,-a.2,m.w,b.1,tO m b.2,m.m⟩,0)
theorem GJ{m:Md}{a b:Int × Int}(h:MN m a b=0):((-100000<=a.1/\a.1<=100000)/\-100000<=a.2/\a.2<=100000)/\((-100000<=b.1/\b.1<=100000)/\-100000<=b.2/\b.2<=100000)/\a.2<0/\1<=b.2/\b.2<=m.t - 1:=by
 unfold MN at h;rw[fe]at h;simp only[Xy,XG,Yn,ZE,forall_eq,gE (show (15:Int)≠0 by omega),gE (show (22:Int)≠0 by omega),nP,dP,Xs,XW]at h;have⟨h1,h2,h3,h4⟩:=h;exact⟨h1,h2,h3,h4⟩
theorem GN{m:Md}(hm:sY m){z:Int}(h1:1<=z)(h2:z<=m.t - 1):1<=tO m z/\tO m z<=100000:=by
 have⟨b1,b2⟩:=yD hm;obtain⟨w1,w2,m1,m2,k1,k2,t1,t2⟩:=hm;unfold tO
 split<;>omega
theorem jY{m:Md}(hm:sY m){a b:Int × Int}(h:MN m a b=0):lb m a b=(⟨a.1,-a.2,m.w,b.1,tO m b.2,m.m⟩,0)/\nH (lb m a b).1:=by
 have⟨⟨h1,h2⟩,⟨h3,h4⟩,h5,h6,h7⟩:=GJ h;have hu:=GN hm h6 h7;have e:lb m a b=(⟨a.1,-a.2,m.w,b.1,tO m b.2,m.m⟩,0):=by unfold lb;rw[Xr (by rw[h];simp),Xr (by omega)]
 obtain⟨w1,w2,m1,m2,k1,k2,t1,t2⟩:=hm;rw[e];exact⟨rfl,⟨by simp only;omega,by simp only;omega,by simp only;omega,by simp only;omega,by simp only;omega,by simp only;omega,by simp only;omega,by simp only;omega,w1,w2,m1,m2⟩⟩
theorem Kn(m:Md)(a b:Int × Int)(hm:sY m):PC qP 157 [.agg (O6 m),.agg (wq a),.agg (wq b)] (.da [.agg (xJ ((lb m a b).1)),.v (.int .i64 ((lb m a b).2))]):=by
 have hm0:=hm;obtain⟨w1,w2,m1,m2,k1,k2,t1,t2⟩:=hm0;refine av (qA func157 E) E ntmps157 results157 λw0=>ae (xa 3 (V (aP E H') (V (aP E H') (V (aP E H') (aw (bL s7 E E E (aN E aA (ai (xq (xa 18 (V (ax (ds:=[_,_]) fM E E E) (V (ak Tf (.cons E .nil) E (u7 _)) (V (ax (ds:=[_,_]) fM E E E) (V (ak Tf (.cons E .nil) E (u7 _)) (V (af dQ E) (V (aj mF E E) (V (cM E E) (V (ak Dr (.cons E (.cons E .nil)) E (vz _ _)) (V (af dQ E) (V (aj mF E E) (V (af fD E) (V (aj mF E E) ?_))))))))))))))))))))));refine V (dk E E xi) (V (ak yY (.cons E (.cons E (.cons E .nil))) E (jj _ _ _)) (V (ak Dr (.cons E (.cons E .nil)) E (vz _ _)) (V (bu oT EA E E (by decide) (.cons E E' (.cons E E' (.cons E E' (.cons E E' .nil)))) ⟨rfl,rfl,rfl,rfl,rfl,rfl,rfl,rfl,trivial⟩ E (by decide) E) (V (ak NO (.cons E .nil) E (vc [_,_,_,_])) (V aA (rs (ae (xa 2 (V aF (V (bS E E) (xc (ao E (λbV=>?_) (λbV=>?_)))))))))))))
 ·(try simp only[nb,Xv]at bV);have he:MN m a b≠0:=bV;have hz:lb m a b=(N6,MN m a b):=by unfold lb;rw[Xu he]
  refine ae (xa 2 (V (bz (cs:=[_,_,_,_,_,_]) LH s7 E .nil trivial E) (V aF (aw (ay gh E E H' E E (by decide) E (aN E aA (ai ?_)))))));change dG _ _ _ _ _;refine ah ?_;refine⟨_,(.cons (.dn E E gh E) cS),?_⟩;rw[hz];rfl
 ·(try simp only[nb,Xv]at bV);have he:MN m a b=0:=bV;have⟨⟨g1,g2⟩,⟨g3,g4⟩,g5,g6,g7⟩:=GJ he;have hz:=(jY hm he).1;have hu:=GN hm g6 g7;refine wO ?_;change dG _ _ _ _ _;refine ae (xa 5 (V (ax (ds:=[_,_,_,_]) lh E E E) (V (af dQ E) (V (aj mF E E) (V (ak ao5 (.cons E (.cons E .nil)) E (EH _ _ hm (by omega) (by omega))) (V aA (rs (ae (xa 2 (V aF (V (gM E E) (xc (ao E (λeU=>?_) (λeU=>?_))))))))))))))
  ·exfalso;(try simp only[nb,Xv]at eU);omega
  ·(try simp only[nb,Xv]at eU);refine wO ?_;change dG _ _ _ _ _;refine ae (xa 14 (V (af gU E) (V (aj mF E E) (V (af dQ E) (V (aj mF E E) ?_)))));refine V (tw E xi) (V (af AL E) (V (aj mF E E) (V (af gU E) (V (aj mF E E) (V aF (V (af AK E) (V (aj mF E E) ?_)))))));refine V (bz (cs:=[_,_,_,_,_,_]) ae3 Xf E (.cons E E' (.cons E E' (.cons E E' (.cons E E' (.cons E E' (.cons E E' .nil)))))) ⟨⟨rfl,by decide⟩,⟨rfl,by decide⟩,⟨rfl,by decide⟩,⟨rfl,by decide⟩,⟨rfl,by decide⟩,⟨rfl,by decide⟩,trivial⟩ E) ?_;refine V (bz (cs:=[_,_,_,_,_,_]) LH s7 E (.cons E H' .nil) ⟨⟨rfl,by decide⟩,trivial⟩ E) (aw (ay gh E E H' E E (by decide) E (aN E aA (ai ?_))));change dG _ _ _ _ _;refine ah ?_;refine⟨_,(.cons (.dn E E gh E) cS),?_⟩;rw[hz];rfl
def mA(m:Md)(a b:Int × Int):ue × Int:=if gP m≠0 then (N6,gP m) else lb m a b
theorem LV{m:Md}{a b:Int × Int}(h:(mA m a b).2=0):sY m/\MN m a b=0/\mA m a b=lb m a b:=by
 unfold mA at h ⊢;by_cases h1:gP m≠0
 ·rw[Xu h1]at h;exact absurd h h1
 ·rw[Xr h1]at h ⊢
  have hm:=nV.1 (XU.1 h1);refine⟨hm,?_,rfl⟩;unfold lb at h;by_cases h2:MN m a b≠0
  ·rw[Xu h2]at h;exact absurd h h2
  ·exact XU.1 h2
theorem P2(m:Md)(a b:Int × Int):PC qP 183 [.agg (O6 m),.agg (wq a),.agg (wq b)] (.da [.agg (xJ ((mA m a b).1)),.v (.int .i64 ((mA m a b).2))]):=by
 refine av (qA func183 E) E ntmps183 results183 λw0=>ae (xa 3 (V (aP E H') (V (aP E H') (V (aP E H') (aw (bL s7 E E E (aN E aA (ai (xq (ae (xa 3 (V (ax (ds:=[_,_,_,_]) lh E E E) (V (ak Ds (.cons E .nil) E (iM _)) (V aA (rs (xa 2 (V aF (V (bS E E) (xc (ao E (λbV=>?_) (λbV=>?_)))))))))))))))))))))
 ·(try simp only[nb,Xv]at bV);have hz:mA m a b=(N6,gP m):=by unfold mA;rw[Xu bV]
  refine ae (xa 2 (V (bz (cs:=[_,_,_,_,_,_]) LH s7 E .nil trivial E) (V aF (aw (ay gh E E H' E E (by decide) E (aN E aA (ai ?_)))))));change dG _ _ _ _ _;refine ah ?_;refine⟨_,(.cons (.dn E E gh E) cS),?_⟩;rw[hz];rfl
 ·(try simp only[nb,Xv]at bV);have hm:sY m:=nV.1 (by simpa using bV);have hz:mA m a b=lb m a b:=by unfold mA;rw[Xr (by simpa using bV)]
  refine wO ?_;change dG _ _ _ _ _;refine ae (xa 6 (V (ax (ds:=[_,_,_,_]) lh E E E) (V (ax (ds:=[_,_]) fM E E E) (V (ax (ds:=[_,_]) fM E E E) (V (ak NN (.cons E (.cons E (.cons E .nil))) E (Kn _ _ _ hm)) (V (au E E) (V (au E E) (aw (ay gh E E H' E E (by decide) E (aN E aA (ai ?_)))))))))));change dG _ _ _ _ _;refine ah ?_;refine⟨_,(.cons (.dn E E gh E) cS),?_⟩;rw[hz];rfl
def wW(m:Md)(a b:Int × Int):Rg × Int:=if (mA m a b).2≠0 then ((0,0),(mA m a b).2) else (jy (mA m a b).1,0)
theorem HG(m:Md)(a b:Int × Int):OJ (wW m a b).1:=by
 unfold wW
 split
 ·exact⟨by simp,by simp,by simp,by simp⟩
 ·rename_i h
  have⟨hm,hw,e⟩:=LV (XU.1 h);rw[e];exact vC (jY hm hw).2
def Wu(m:Md)(a b:Int × Int):Int:=((wW m a b).1.1+(wW m a b).1.2) / 2
theorem Ha(m:Md)(a b:Int × Int):0<=Wu m a b/\Wu m a b<=20000000000:=by
 have⟨h1,h2,h3,h4⟩:=HG m a b;unfold Wu;omega
theorem Cu(m:Md)(a b:Int × Int):PC qP 174 [.agg (O6 m),.agg (wq a),.agg (wq b)] (.da [.agg [.v (.int .i64 (((wW m a b).1).1)),.v (.int .i64 (((wW m a b).1).2))],.v (.int .i64 ((wW m a b).2))]):=by
 refine av (qA func174 E) E ntmps174 results174 λw0=>ae (xa 3 (V (aP E H') (V (aP E H') (V (aP E H') (aw (bL gv E E E (aN E aA (ai (xq (xa 7 (V (ax (ds:=[_,_,_,_]) lh E E E) (V (ax (ds:=[_,_]) fM E E E) (V (ax (ds:=[_,_]) fM E E E) (V (ak an9 (.cons E (.cons E (.cons E .nil))) E (P2 _ _ _)) (V (aq (x:=.d (.da _)) E) (V (au E E) (V (au E E) (aw (bL s7 E E E (ay gh E E H' E E (by decide) E (aN E aA (ai (xq (ae (xa 2 (V aF (V (bS E E) (xc (ao E (λbV=>?_) (λbV=>?_))))))))))))))))))))))))))))))
 ·(try simp only[nb,Xv]at bV);have hz:wW m a b=((0,0),(mA m a b).2):=by unfold wW;rw[Xu bV]
  refine ae (xa 2 (V (bz (cs:=[_,_]) qm gv E .nil trivial E) (V aF (aw (ay dM E E H' E E (by decide) E (aN E aA (ai ?_)))))));change dG _ _ _ _ _;refine ah ?_;refine⟨_,(.cons (.dn E E dM E) cS),?_⟩;rw[hz];rfl
 ·(try simp only[nb,Xv]at bV);have he:(mA m a b).2=0:=by simpa using bV
  have⟨hm,hw,e⟩:=LV he;have hcx:nH (mA m a b).1:=by rw[e];exact(jY hm hw).2
  have hz:wW m a b=(jy (mA m a b).1,0):=by unfold wW;rw[Xr (by rw[he];simp)]
  refine wO ?_;change dG _ _ _ _ _;refine ae (xa 2 (V (aX (ds:=[_,_,_,_,_,_]) gh E E E E) (V (ak NM (.cons E .nil) E (Af _ hcx)) (aw (ay dM E E H' E E (by decide) E (aN E aA (ai ?_)))))));change dG _ _ _ _ _;refine ah ?_;refine⟨_,(.cons (.dn E E dM E) cS),?_⟩;rw[hz];rfl
theorem oX(m:Md)(a b:Int × Int):PC qP 166 [.agg (O6 m),.agg (wq a),.agg (wq b)] (.da [.v (.int .i64 (Wu m a b)),.v (.int .i64 ((wW m a b).2))]):=by
 have⟨h1,h2,h3,h4⟩:=HG m a b;refine av (qA func166 E) E ntmps166 results166 λw0=>ae (xa 5 (V (aP E H') (V (aP E H') (V (aP E H') (V aA (V aA (rs (xa 7 (V (ax (ds:=[_,_,_,_]) lh E E E) (V (ax (ds:=[_,_]) fM E E E) (V (ax (ds:=[_,_]) fM E E E) (V (ak ao2 (.cons E (.cons E (.cons E .nil))) E (Cu _ _ _)) (V (aq (x:=.d (.da _)) E) (V (au E E) (V (au E E) (aw (bL gv E E E (ay dM E E H' E E (by decide) E (aN E aA (ai (xq (xa 9 (V (aC eu E) (V (aQ mF E E E) (V (aC fw E) (V (aQ mF E E E) ?_))))))))))))))))))))))))));refine V (lE E E xi) ?_;refine V (ak NL (.cons E (.cons E .nil)) E (F7 _ _ ⟨by omega,by omega⟩ (by omega))) (V aF (V aA (V aA (xc (ah ?_)))));refine⟨_,gz,?_⟩;rfl
theorem ld(n lo hi:Int):PC qP 50 [.v (.int .i64 (n)),.v (.int .i64 (lo)),.v (.int .i64 (hi))] (.v (.bool (dP lo n hi))):=by
 refine av (qA func50 E) E ntmps50 results50 λw0=>ae (xa 1 (V aA (rs (xa 9 (V aF (V aF (V (iG E E) (V aF (aE E E (λhG=>aF) (aE E E (λhG=>aF) (aE E E (λhG=>(iG E E)) (aT E E E E E E ?_))))))))))));refine V aA (xc (ah ?_));refine⟨_,cS,?_⟩;simp only[gX];rfl
theorem oz(n lo hi:Int):PC qP 167 [.v (.int .i64 (n)),.v (.int .i64 (lo)),.v (.int .i64 (hi))] (.v (.bool (dP lo n hi))):=by
 refine av (qA func167 E) E ntmps167 results167 λw0=>ae (xa 1 (V aA (rs (xa 9 (V aF (V aF (V (iG E E) (V aF (aE E E (λhG=>aF) (aE E E (λhG=>aF) (aE E E (λhG=>(iG E E)) (aT E E E E E E ?_))))))))))));refine V aA (xc (ah ?_));refine⟨_,cS,?_⟩;simp only[gX];rfl
theorem DN(n m:Int)(h1:0<=m)(h2:m<=1000000000000):PC qP 160 [.v (.int .i64 (n)),.v (.int .i64 (m))] (.v (.bool (dP (-m) n m))):=by
 refine av (qA func160 E) E ntmps160 results160 λw0=>ae (xa 1 (V aA (rs (xa 6 (V aF (V aF ?_))))));refine V (tw E xi) (V aF (V (ak H5 (.cons E (.cons E (.cons E .nil))) E (oz _ _ _)) (V aA (xc (ah ?_)))));refine⟨_,cS,?_⟩;rfl
theorem wN(l:List Int):PC qP 142 [.sl 1 (l.map iC)] (.v (.int .i64 (firstE l))):=by
 refine av (qA func142 E) E ntmps142 results142 λw0=>ae (xa 1 (V aA (rs (ae (xa 3 (V (aq (x:=.d (.sl _ _)) E) (V (cd FK E (by exact aV _ _)) (V aF (xc (bm (t:=5) E (λQ1=>?_)))))))))));(try simp only[Xo]at Q1);refine az (bG [2,4,7,8,9,10,11,12,13,14] [] (α:=Nat) (λk=>[(7,T.i (k:Int))]) (λk=>[]) (λk=>k<=l.length/\firstE l=firstE (l.drop k)) (λk=>l.length - k) 0 ⟨XC _,rfl⟩ ?_ ?_)
 ·exact xh (ms:=[]) (by repeat (exact Out.refl _)) ⟨(by rfl),trivial⟩ trivial
 ·intro k ⟨hk,hf⟩;refine ae (xa 1 (V (cM E E) (rs (ao E (λbV=>?_) (λbV=>?_)))))
  ·(try simp only[nb,Xv]at bV);have bH:k<l.length:=by omega
   have hx:=Xp bH;have J:firstE (l.drop k)=if l[k]=0 then firstE (l.drop (k+1)) else l[k]:=by rw[Yf bH];rfl
   generalize l[k]=x at *;refine wO ?_;change dG _ _ _ _ _;refine ae (az (ae (xa 3 (V (aJ oT E E (by omega) (cm (by omega) hx)) (V (aj TY E E) (V aA (rs (xa 2 (V aF (V (bS E E) (xc (ao E (λeJ=>?_) (λeJ=>?_)))))))))))))
   ·(try simp only[nb,Xv]at eJ);refine ae (xa 2 (V aF (V aA (xc (ah ?_)))));refine⟨_,cS,?_⟩;rw[hf,J,Xr eJ];rfl
   ·(try simp only[nb,Xv]at eJ);refine wO ?_;change dG _ _ _ _ _;refine xa 2 ?_;refine V (lE E E xi) (V aF (rn ?_));refine⟨k+1,⟨by omega,by rw[hf,J,Xu eJ]⟩,by omega,?_⟩;exact xh (ms:=[]) (by repeat (first|exact Out.head E E|(refine Out.put ?_ E))) ⟨(by rfl),trivial⟩ trivial
  ·(try simp only[nb,Xv]at bV);refine bJ ?_;change dG _ _ _ _ _;refine ae (xa 1 (V aA (xc (ah ?_))));refine⟨_,cS,?_⟩;rw[hf,Yu (by omega)];rfl
def c9(b:Bool)(e:Int):Int:=if b=true then e else 0
theorem xP(b:Bool)(e:Int):c9 (!b) e=g9 b e:=by cases b<;>rfl
theorem fL{b:Bool}{e:Int}(he:e≠0):c9 b e=0↔b=false:=by unfold c9;cases b<;>simp_all
theorem uJ(b:Bool)(e:Int):PC qP 144 [.v (.bool (b)),.v (.int .i64 (e))] (.v (.int .i64 (c9 b e))):=by
 refine av (qA func144 E) E ntmps144 results144 λw0=>ae (xa 1 (V aA (rs (ae (xa 1 (V aF (xc (ao E (λbW=>?_) (λbW=>?_)))))))))
 ·(try simp only[nb,Xv]at bW);have hz:c9 b e=e:=by unfold c9;rw[Xu bW]
  refine ae (xa 2 (V aF (V aA (xc (ah ?_)))));refine⟨_,cS,?_⟩;rw[hz];rfl
 ·(try simp only[nb,Xv]at bW);have hz:c9 b e=0:=by unfold c9;rw[Xr (by simpa using bW)]
  refine wO ?_;change dG _ _ _ _ _;refine ae (xa 1 (V aA (xc (ah ?_))));refine⟨_,cS,?_⟩;rw[hz];rfl
theorem Fz(a b:Bool):((!a) || !b) = !(a&&b):=by cases a<;>cases b<;>rfl
theorem wM(p:Int × Int):PC qP 143 [.agg (wq p)] (.v (.int .i64 (iT p))):=by
 refine av (qA func143 E) E ntmps143 results143 λw0=>ae (xa 2 (V (aP E H') (V aA (rs (xa 12 (V (af gU E) (V (aj mF E E) (V (ak Tj (.cons E (.cons E .nil)) E (DN _ _ (by omega) (by omega))) (V (bX E) (V aF (aE E E (λhG=>(af dQ E)) (aE E E (λhG=>(aj mF E E)) (aE E E (λhG=>(ak Tj (.cons E (.cons E .nil)) E (DN _ _ (by omega) (by omega)))) (aE E E (λhG=>(bX E)) (aT E E E E E E ?_)))))))))))))));refine V (ak Dt (.cons E (.cons E .nil)) E (uJ _ _)) (V aA (xc (ah ?_)));refine⟨_,cS,?_⟩;unfold iT KX;rw[<-xP];simp only[gX,jJ,<-Fz];rfl
def mX(z t:Int):Int:=g9 (dP 1 z (t - 1)) 22
def ln(s:Int × Int):Int:=if (dP 0 s.1 1000000000000&&dP 1 s.2 100000000)=true then 0 else 2
theorem Fi(p:Int × Int)(t:Int)(h1:2<=t)(h2:t<=20000):PC qP 154 [.agg (wq p),.v (.int .i64 (t))] (.v (.int .i64 (mX p.2 t))):=by
 refine av (qA func154 E) E ntmps154 results154 λw0=>ae (xa 2 (V (aP E H') (V aA (rs (xa 8 (V (af dQ E) (V (aj mF E E) (V aF ?_))))))));refine V (dk E E xi) (V (ak H5 (.cons E (.cons E (.cons E .nil))) E (oz _ _ _)) (V (bX E) (V (ak Dt (.cons E (.cons E .nil)) E (uJ _ _)) (V aA (xc (ah ?_))))));refine⟨_,cS,?_⟩;unfold mX;rw[<-xP];rfl
theorem uc(s:Int × Int):PC qP 146 [.agg (wq s)] (.v (.int .i64 (ln s))):=by
 refine av (qA func146 E) E ntmps146 results146 λw0=>ae (xa 2 (V (aP E H') (V aA (rs (ae (xa 10 (V (af AJ E) (V (aj mF E E) (V (ak NK (.cons E (.cons E (.cons E .nil))) E (ld _ _ _)) (V (bX E) (V aF (aE E E (λhG=>(af uF E)) (aE E E (λhG=>(aj mF E E)) (aE E E (λhG=>(ak NK (.cons E (.cons E (.cons E .nil))) E (ld _ _ _))) (aE E E (λhG=>(bX E)) (aT E E E E E E ?_))))))))))))))));refine xc (ao E (λbW=>?_) (λbW=>?_))
 ·(try simp only[nb,Xv]at bW);have hz:ln s=2:=by unfold ln;rw[Xr (by intro h;simp_all)]
  refine ae (xa 1 (V aA (xc (ah ?_))));refine⟨_,cS,?_⟩;rw[hz];rfl
 ·(try simp only[nb,Xv]at bW);have hz:ln s=0:=by unfold ln;rw[Xu (by simp_all)]
  refine wO ?_;change dG _ _ _ _ _;refine ae (xa 1 (V aA (xc (ah ?_))));refine⟨_,cS,?_⟩;rw[hz];rfl
def IU(n b:Int):Int:=(2*n+b) / (2*b)
structure rX where
 el:List (Int × Int)
 ou:Md
 ba:Md
 ts:Int × Int
def rN(a:rX):List D:=[.sl 2 (a.el.map wq),.v (.int .i64 a.ou.w),.v (.int .i64 a.ou.m),.v (.int .i64 a.ou.k),.v (.int .i64 a.ou.t),.v (.int .i64 a.ba.w),.v (.int .i64 a.ba.m),.v (.int .i64 a.ba.k),.v (.int .i64 a.ba.t),.v (.int .i64 a.ts.1),.v (.int .i64 a.ts.2)]
def JE(p:Int × Int):Int:=firstE [iT p,c9 (decide (0<=p.2)) 15]
def ckEls:Nat->List (Int × Int)->Int × Int
 | _,[]=>(0,0)
 | i,p::ps=>if JE p≠0 then (i,JE p) else ckEls (i+1) ps
def y6(a:rX):Int:=firstE [gP a.ou,gP a.ba,c9 (decide (a.ou.t≠a.ba.t)) 23,ln a.ts]
def dJ(a:rX):Int × Int:=if a.el.length=0 then (0,10) else if 16<a.el.length then (0,8) else if (ckEls 0 a.el).2≠0 then ckEls 0 a.el else (0,y6 a)
theorem DI{l:List (Int × Int)}{k:Nat}{x:Int × Int}(hx:l[k]?=some x):ckEls k (l.drop k)=if JE x≠0 then ((k:Int),JE x) else ckEls (k+1) (l.drop (k+1)):=by
 obtain⟨bH,rfl⟩:=Xt.1 hx;rw[Yf bH];rfl
theorem DH:∀{l:List (Int × Int)} {i:Nat},(ckEls i l).2=0->∀p∈l,JE p=0
 | [],_,_,p,hp=>by cases hp
 | q::l,i,h,p,hp=>by
  unfold ckEls at h;by_cases h1:JE q≠0
  ·rw[Xu h1]at h;exact absurd h h1
  ·rw[Xr h1]at h
   rcases Xy.1 hp with rfl|hp
   ·exact XU.1 h1
   ·exact DH h p hp
structure Ej(a:rX):Prop where
 n1:1<=a.el.length
 n2:a.el.length<=16
 el:∀p∈a.el,(-100000<=p.1/\p.1<=100000)/\-100000<=p.2/\p.2<0
 ou:sY a.ou
 ba:sY a.ba
 th:a.ou.t=a.ba.t
 t1:0<=a.ts.1
 t2:a.ts.1<=1000000000000
 t3:1<=a.ts.2
 t4:a.ts.2<=100000000
theorem VO{p:Int × Int}(h:JE p=0):(-100000<=p.1/\p.1<=100000)/\-100000<=p.2/\p.2<0:=by
 unfold JE at h;rw[fe]at h;simp only[Xy,XG,Yn,ZE,forall_eq,nP,fL (show (15:Int)≠0 by omega),YP]at h;omega
theorem iL{a:rX}(h:(dJ a).2=0):Ej a/\dJ a=(0,0):=by
 unfold dJ at h ⊢;by_cases h1:a.el.length=0
 ·rw[Xu h1]at h;simp at h
 by_cases h2:16<a.el.length
 ·rw[Xr h1,Xu h2]at h;simp at h
 by_cases h3:(ckEls 0 a.el).2≠0
 ·rw[Xr h1,Xr h2,Xu h3]at h;exact absurd h h3
 rw[Xr h1,Xr h2,Xr h3]at h ⊢;simp only at h;have h4:=h;unfold y6 at h4;rw[fe]at h4;simp only[Xy,XG,Yn,ZE,forall_eq,nV,fL (show (23:Int)≠0 by omega),YP,XU]at h4;have⟨k1,k2,k3,k4⟩:=h4
 have k5:dP 0 a.ts.1 1000000000000&&dP 1 a.ts.2 100000000:=by
  unfold ln at k4
  split at k4
  ·assumption
  ·cases k4
 simp[dP]at k5;refine⟨⟨by omega,by omega,λp hp=>VO (DH (XU.1 h3) p hp),k1,k2,k3,k5.1.1,k5.1.2,k5.2.1,k5.2.2⟩,by rw[h]⟩
theorem mc(a:rX):PC qP 115 [.agg (rN a)] (.da [.v (.int .i64 ((dJ a).1)),.v (.int .i64 ((dJ a).2))]):=by
 refine av (qA func115 E) E ntmps115 results115 λw0=>ae (xa 3 (V (aP E H') (V aA (V aA (rs (az (ae (xa 5 (V (af du E) (V (aj jP E E) (V (cd kA E (by exact aV _ _)) (V (fG E E) (V aA (xc (bm (t:=9) E (λhl9=>?_))))))))))))))));(try simp only[Xo]at hl9);refine ao E (λbW=>?_) (λbW=>?_)
 ·(try simp only[nb,Xv]at bW);have hz:dJ a=(0,10):=by unfold dJ;rw[Xu (by omega)]
  refine ae (xa 2 (V aA (V aA (xc (ah ?_)))));refine⟨_,gz,?_⟩;rw[hz];rfl
 ·(try simp only[nb,Xv]at bW);refine ae (xa 5 (V (af du E) (V (aj jP E E) (V (cd kA E (by exact aV _ _)) (V (gM E E) (V aA (xc (bm (t:=14) E (λaA4=>?_)))))))));(try simp only[Xo]at aA4);refine ao E (λdB=>?_) (λdB=>?_)
  ·(try simp only[nb,Xv]at dB);have hz:dJ a=(0,8):=by unfold dJ;rw[Xr (by omega),Xu (by omega)]
   refine ae (xa 2 (V aA (V aA (xc (ah ?_)))));refine⟨_,gz,?_⟩;rw[hz];rfl
  ·(try simp only[nb,Xv]at dB);have hz:dJ a=if (ckEls 0 a.el).2≠0 then ckEls 0 a.el else (0,y6 a):=by unfold dJ;rw[Xr (by omega),Xr (by omega)]
   refine wO ?_;change dG _ _ _ _ _;refine ae (ae (xa 4 (V (af du E) (V (aj jP E E) (V (cd kA E (by exact aV _ _)) (V aF (xc (bm (t:=18) E (λVb=>?_)))))))));(try simp only[Xo]at Vb);refine az (bG [2,3,4,5,6,20,21,22,23,24,25,26,27,28,29,30,31,32,33,34,35,36,37] [] (α:=Nat) (λk=>[(20,T.i (k:Int))]) (λk=>[]) (λk=>k<=a.el.length/\ckEls 0 a.el=ckEls k (a.el.drop k)) (λk=>a.el.length - k) 0 ⟨XC _,rfl⟩ ?_ ?_)
   ·exact xh (ms:=[]) (by repeat (exact Out.refl _)) ⟨(by rfl),trivial⟩ trivial
   ·intro k ⟨hk,hf⟩;refine ae (xa 1 (V (cM E E) (rs (ao E (λwx=>?_) (λwx=>?_)))))
    ·(try simp only[nb,Xv]at wx);have bH:k<a.el.length:=by omega
     obtain⟨x,hx⟩:∃x,a.el[k]?=some x:=⟨_,Xp bH⟩;have J:=DI hx;refine wO ?_;change dG _ _ _ _ _;refine ae (az (ae (xa 3 (V aF (V (aJ xg E E (by omega) (cm (by omega) hx)) (V (ax (ds:=[_,_]) fM E E E) (aw (bL r9 E E E (aN E aA (ay fM E E H' E E (by decide) E (ai (xq (xa 9 (V (aX (ds:=[_,_]) fM E E E E) (V (ak Tp (.cons E .nil) E (wM _)) (V (aC dQ E) (V (aQ mF E E E) (V (Hj E E) (V (ak Dt (.cons E (.cons E .nil)) E (uJ _ _)) (V (bu oT EA E E (by decide) (.cons E E' (.cons E E' .nil)) ⟨rfl,rfl,rfl,rfl,trivial⟩ E (by decide) E) (V (ak NP (.cons E .nil) E (wN [_,_])) (V aA (rs (xa 2 (V aF (V (bS E E) (xc (ao E (λCZ=>?_) (λCZ=>?_)))))))))))))))))))))))))))))
     ·(try simp only[nb,Xv]at CZ);have hb:JE x≠0:=CZ;have eM:ckEls 0 a.el=((k:Int),JE x):=by rw[hf,J,Xu hb]
      refine ae (xa 4 (V aF (V aF (V aA (V aA (xc (ah ?_)))))));refine⟨_,gz,?_⟩;rw[hz,eM,Xu hb];rfl
     ·(try simp only[nb,Xv]at CZ);have hb:JE x=0:=CZ;refine wO ?_;change dG _ _ _ _ _;refine xa 2 ?_;refine V (lE E E xi) (V aF (rn ?_));refine⟨k+1,⟨by omega,by rw[hf,J,Xr (by rw[hb];simp)]⟩,by omega,?_⟩;exact xh (ms:=[]) (by repeat (first|exact Out.head E E|(refine Out.put ?_ E)|(refine Out.site ?_ E))) ⟨(by rfl),trivial⟩ trivial
    ·(try simp only[nb,Xv]at wx);have Vh:ckEls 0 a.el=(0,0):=by rw[hf,Yu (by omega)];rfl
     refine bJ ?_;change dG _ _ _ _ _;refine ae (xa 21 (V (af iA E) (V (ax (ds:=[_,_,_,_]) lh E E E) (V (ak Ds (.cons E .nil) E (iM a.ou)) (V (af om E) (V (ax (ds:=[_,_,_,_]) lh E E E) (V (ak Ds (.cons E .nil) E (iM a.ba)) (V (af iA E) (V (af fD E) (V (aj mF E E) (V (af om E) (V (af fD E) (V (aj mF E E) (V (bS E E) (V (ak Dt (.cons E (.cons E .nil)) E (uJ _ _)) (V (af q9 E) (V (ax (ds:=[_,_]) ab4 E E E) (V (ak ap3 (.cons E .nil) E (uc a.ts)) (V (bu oT EA E E (by decide) (.cons E E' (.cons E E' (.cons E E' (.cons E E' .nil)))) ⟨rfl,rfl,rfl,rfl,rfl,rfl,rfl,rfl,trivial⟩ E (by decide) E) (V (ak NP (.cons E .nil) E (wN [_,_,_,_])) (V aA (V aA (xc (ah ?_))))))))))))))))))))))));refine⟨_,gz,?_⟩;rw[hz,Vh,Xr (by simp)];rfl
def vk(n:Nat)(p:Int × Int):Int:=c9 (!dP 0 p.1 ((n:Int) - 1) || !dP 0 p.2 ((n:Int) - 1)) 6
theorem Qp{n:Nat}{p:Int × Int}(h:vk n p=0):(0<=p.1/\p.1<n)/\0<=p.2/\p.2<n:=by
 unfold vk at h;rw[fL (by omega)]at h;simp[dP]at h;omega
theorem I4(a:rX)(p:Int × Int)(hl:a.el.length<=1000):PC qP 155 [.agg (rN a),.agg (wq p)] (.v (.int .i64 (vk a.el.length p))):=by
 refine av (qA func155 E) E ntmps155 results155 λw0=>ae (xa 3 (V (aP E H') (V (aP E H') (V aA (rs (xa 6 (V (af BY E) (V (af du E) (V (aj jP E E) (V (cd kA E (by exact aV _ _)) ?_))))))))));refine V (dk E E xi) (V aA (xc (bm (t:=8) E (λMW=>?_))));(try simp only[Xo]at MW);refine ae (xa 14 (V (cj kF E E (by omega) (by omega)) (V (aj mF E E) (V aF (V (ak H5 (.cons E (.cons E (.cons E .nil))) E (oz _ _ _)) (V (bX E) (V aF ?_)))))));refine aE E E (λhG=>(cj kF E E (by (have iR:=T.cP (a:=_) hG.1;(try simp only[nb,Xv]at iR);omega)) (by (have iR:=T.cP (a:=_) hG.1;(try simp only[nb,Xv]at iR);omega)))) (aE E E (λhG=>(aj mF E E)) (aE E E (λhG=>aF) (aE E E (λhG=>(ak H5 (.cons E (.cons E (.cons E .nil))) E (oz _ _ _))) (aE E E (λhG=>(bX E)) (aT E E E E E E ?_)))));refine V (ak Dt (.cons E (.cons E .nil)) E (uJ _ _)) (V aA (xc (ah ?_)));refine⟨_,cS,?_⟩;unfold vk;simp only[jJ];rfl
def jI(a:rX)(i:Int):Int × Int:=a.el.getD i.toNat (0,0)
def Dy(a:rX)(at_ p:Int × Int):Int:=Wu a.ou (jI a p.1) at_+Wu a.ba (jI a p.2) at_
theorem Dv{a:rX}{i:Int}(h1:0<=i)(h2:i<a.el.length):a.el[i.toNat]?=some (jI a i):=by
 unfold jI;rw[X1,Xp (by omega)];rfl
theorem VR(a:rX)(at_ p:Int × Int):0<=Dy a at_ p/\Dy a at_ p<=40000000000:=by
 have h1:=Ha a.ou (jI a p.1) at_;have h2:=Ha a.ba (jI a p.2) at_;unfold Dy;omega
theorem VQ(a:rX)(t p:Int × Int)(hp:(0<=p.1/\p.1<a.el.length)/\0<=p.2/\p.2<a.el.length):PC qP 153 [.agg (rN a),.agg (wq t),.agg (wq p)] (.v (.int .i64 (Dy a t p))):=by
 have⟨⟨p1,p2⟩,p3,p4⟩:=hp;have hx:=Dv p1 p2;have hy:=Dv p3 p4;have r1:=Ha a.ou (jI a p.1) t;have r2:=Ha a.ba (jI a p.2) t;have e1:((p.1.toNat:Nat):Int)=p.1:=by omega
 have e2:((p.2.toNat:Nat):Int)=p.2:=by omega
 refine av (qA func153 E) E ntmps153 results153 λw0=>ae (xa 4 (V (aP E H') (V (aP E H') (V (aP E H') (V aA (rs (xa 17 (V (af BY E) (V (af iA E) (V (ax (ds:=[_,_,_,_]) lh E E E) (V (af BY E) (V (af du E) (V (aj jP E E) (V (cj kF E E (by omega) (by omega)) (V (aj mF E E) (V (aJ xg E E (by omega) (cm (k:=p.1.toNat) (by omega) hx)) (V (ax (ds:=[_,_]) fM E E E) (V (ax (ds:=[_,_]) fM E E E) (V (ak Tg (.cons E (.cons E (.cons E .nil))) E (oX a.ou (jI a p.1) t)) (V (aq (x:=.d (.da _)) E) (V (au E E) (V (au E E) (V aA (V aA (rs (xa 17 (V (af BY E) (V (af om E) (V (ax (ds:=[_,_,_,_]) lh E E E) (V (af BY E) (V (af du E) (V (aj jP E E) (V (cj kF E E (by omega) (by omega)) (V (aj mF E E) (V (aJ xg E E (by omega) (cm (k:=p.2.toNat) (by omega) hy)) (V (ax (ds:=[_,_]) fM E E E) (V (ax (ds:=[_,_]) fM E E E) (V (ak Tg (.cons E (.cons E (.cons E .nil))) E (oX a.ba (jI a p.2) t)) (V (aq (x:=.d (.da _)) E) (V (au E E) (V (au E E) (V aA (V aA (rs (xa 4 (V aF (V aF ?_)))))))))))))))))))))))))))))))))))))))))))))));refine V (lE E E xi) (V aA (xc (ah ?_)));refine⟨_,cS,?_⟩;rfl
def su(a:rX)(t p:Int × Int):Int:=IU (Dy a t p - a.ts.1) a.ts.2
def Ch(a:rX)(t p:Int × Int):Int:=if (dJ a).2≠0 then (dJ a).2 else firstE [iT t,mX t.2 a.ou.t,vk a.el.length p]
theorem Su{a:rX}{t p:Int × Int}(h:Ch a t p=0):Ej a/\((0<=p.1/\p.1<a.el.length)/\0<=p.2/\p.2<a.el.length)/\iT t=0/\mX t.2 a.ou.t=0:=by
 unfold Ch at h;by_cases h1:(dJ a).2≠0
 ·rw[Xu h1]at h;exact absurd h h1
 rw[Xr h1,fe]at h;simp only[Xy,XG,Yn,ZE,forall_eq]at h;exact⟨(iL (XU.1 h1)).1,Qp h.2.2,h.1,h.2.1⟩
theorem Ic(a:rX)(t p:Int × Int):PC qP 140 [.agg (rN a),.agg (wq t),.agg (wq p)] (.da [.agg (rN a),.v (.int .i64 (Ch a t p))]):=by
 refine av (qA func140 E) E ntmps140 results140 λw0=>ae (xa 3 (V (aP E H') (V (aP E H') (V (aP E H') (aw (bL Bs E E E (aN E aA (ai (xq (xa 2 (V (ax (ds:=[_,_,_,_,_,_,_,_,_,_,_]) po E E E) ?_)))))))))));refine V (bz (cs:=[_,_,_,_,_,_,_,_,_,_,_]) ae5 Bs E (.cons E H' .nil) ⟨⟨rfl,by decide⟩,trivial⟩ E) (aw (bL Bs E E E (ay mJ E E H' E E (by decide) E (ai (xq (ae (xa 7 (V (ax (ds:=[_,_,_,_,_,_,_,_,_,_,_]) po E E E) (V (ak NR (.cons E .nil) E (mc _)) (V (aq (x:=.d (.da _)) E) (V (au E E) (V (au E E) (V aA (V aA (rs (xa 2 (V aF (V (bS E E) (xc (ao E (λdB=>?_) (λdB=>?_)))))))))))))))))))))
 ·(try simp only[nb,Xv]at dB);have hz:Ch a t p=(dJ a).2:=by unfold Ch;rw[Xu dB]
  refine ae (xa 2 (V (aX (ds:=[_,_,_,_,_,_,_,_,_,_,_]) mJ E E E E) (V aF (aw (ay mJ E E H' E E (by decide) E (aN E aA (ai ?_)))))));change dG _ _ _ _ _;refine ah ?_;refine⟨_,(.cons (.dn E E mJ E) cS),?_⟩;rw[hz];rfl
 ·(try simp only[nb,Xv]at dB);have AE:(dJ a).2=0:=by simpa using dB
  have bg:=(iL AE).1;have ht1:=bg.ou.t1;have ht2:=bg.ou.t2;have Ay:a.el.length<=1000:=by have:=bg.n2;omega
  have hz:Ch a t p=firstE [iT t,mX t.2 a.ou.t,vk a.el.length p]:=by unfold Ch;rw[Xr (by rw[AE];simp)]
  refine wO ?_;change dG _ _ _ _ _;refine ae (xa 13 (V (aX (ds:=[_,_,_,_,_,_,_,_,_,_,_]) mJ E E E E) (V (ax (ds:=[_,_]) fM E E E) (V (ak Tp (.cons E .nil) E (wM _)) (V (ax (ds:=[_,_]) fM E E E) (V (af iA E) (V (af fD E) (V (aj mF E E) (V (ak ao8 (.cons E (.cons E .nil)) E (Fi t a.ou.t ht1 ht2)) (V (aX (ds:=[_,_,_,_,_,_,_,_,_,_,_]) mJ E E E E) (V (ax (ds:=[_,_]) oQ E E E) (V (ak ao7 (.cons E (.cons E .nil)) E (I4 _ _ Ay)) (V (bu oT EA E E (by decide) (.cons E E' (.cons E E' (.cons E E' .nil))) ⟨rfl,rfl,rfl,rfl,rfl,rfl,trivial⟩ E (by decide) E) (V (ak NP (.cons E .nil) E (wN [_,_,_])) (aw (ay mJ E E H' E E (by decide) E (aN E aA (ai ?_))))))))))))))))));change dG _ _ _ _ _;refine ah ?_;refine⟨_,(.cons (.dn E E mJ E) cS),?_⟩;rw[hz];rfl
def Dx(a:rX)(t p:Int × Int):Int × Int:=if Ch a t p≠0 then (0,Ch a t p) else (Dy a t p,0)
theorem NU(a:rX)(t p:Int × Int):PC qP 139 [.agg (rN a),.agg (wq t),.agg (wq p)] (.da [.v (.int .i64 ((Dx a t p).1)),.v (.int .i64 ((Dx a t p).2))]):=by
 refine av (qA func139 E) E ntmps139 results139 λw0=>ae (xa 5 (V (aP E H') (V (aP E H') (V (aP E H') (V aA (V aA (rs (xa 7 (V (ax (ds:=[_,_,_,_,_,_,_,_,_,_,_]) po E E E) (V (ax (ds:=[_,_]) fM E E E) (V (ax (ds:=[_,_]) oQ E E E) (V (ak Tq (.cons E (.cons E (.cons E .nil))) E (Ic _ _ _)) (V (aq (x:=.d (.da _)) E) (V (au E E) (V (au E E) (aw (bL Bs E E E (ay mJ E E H' E E (by decide) E (aN E aA (ai (xq (ae (xa 2 (V aF (V (bS E E) (xc (ao E (λbV=>?_) (λbV=>?_))))))))))))))))))))))))))))
 ·(try simp only[nb,Xv]at bV);have hz:Dx a t p=(0,Ch a t p):=by unfold Dx;rw[Xu bV]
  refine ae (xa 3 (V aF (V aA (V aA (xc (ah ?_))))));refine⟨_,gz,?_⟩;rw[hz];rfl
 ·(try simp only[nb,Xv]at bV);have ho:Ch a t p=0:=by simpa using bV
  have⟨bg,uC,_⟩:=Su ho;have hz:Dx a t p=(Dy a t p,0):=by unfold Dx;rw[Xr (by rw[ho];simp)]
  refine wO ?_;change dG _ _ _ _ _;refine ae (xa 6 (V (aX (ds:=[_,_,_,_,_,_,_,_,_,_,_]) mJ E E E E) (V (ax (ds:=[_,_]) fM E E E) (V (ax (ds:=[_,_]) oQ E E E) (V (ak ao9 (.cons E (.cons E (.cons E .nil))) E (VQ _ _ _ uC)) (V aA (V aA (xc (ah ?_)))))))));refine⟨_,gz,?_⟩;rw[hz];rfl
structure Flw where
 kd:Int
 at_:Int × Int
 to_:Int × Int
 pc:Int
 am:Int
 tp:Int
def aC6(x:Flw):List D:=[.v (.int .i64 x.kd),.v (.int .i64 x.at_.1),.v (.int .i64 x.at_.2),.v (.int .i64 x.to_.1),.v (.int .i64 x.to_.2),.v (.int .i64 x.pc),.v (.int .i64 x.am),.v (.int .i64 x.tp)]
theorem FO(f:Int->Bool)(g:ϋ)(cap:List D)(Vm:cA qP g=true)(l:List Int)(hf:∀a∈l,PC qP g (.v (.int .i64 a)::cap) (.v (.bool (f a)))):PC qP 134 [.sl 1 (l.map iC),.fn (.func g) cap] (.v (.int .i64 (idxOf f 0 l))):=by
 refine av (qA func134 E) E ntmps134 results134 λw0=>ae (xa 1 (V aA (rs (ae (xa 3 (V (aq (x:=.d (.sl _ _)) E) (V (cd iX E (by exact aV _ _)) (V aF (xc (bm (t:=6) E (λMY=>?_)))))))))));(try simp only[Xo]at MY);refine az (bG [4,5,8,9,10,11,12,13,14,15,16,17,18] [] (α:=Nat) (λk=>[(8,T.i (k:Int))]) (λk=>[]) (λk=>k<=l.length/\idxOf f 0 l=idxOf f k (l.drop k)) (λk=>l.length - k) 0 ⟨XC _,rfl⟩ ?_ ?_)
 ·exact xh (ms:=[]) (by repeat (exact Out.refl _)) ⟨(by rfl),trivial⟩ trivial
 ·intro k ⟨hk,hh⟩;refine ae (xa 1 (V (cM E E) (rs (ao E (λbV=>?_) (λbV=>?_)))))
  ·(try simp only[nb,Xv]at bV);have bH:k<l.length:=by omega
   have hx:=Xp bH;have J:idxOf f k (l.drop k)=if f l[k]=true then (k:Int) else idxOf f (k+1) (l.drop (k+1)):=by rw[Yf bH];rfl
   have hfx:=hf l[k] (ZU bH);generalize l[k]=x at *;refine wO ?_;change dG _ _ _ _ _;refine ae (az (ae (xa 2 (V aF (V aA (rs (xa 6 (V (aq (x:=.d (.fn _ _)) E) (V (aq (x:=.d (.sl _ _)) E) (V aF (V (aJ gK E E (by omega) (cm (by omega) hx)) (V (aj mF E E) (V (Hk Vm E (.cons E .nil) (hfx)) (xc (ao E (λeJ=>?_) (λeJ=>?_))))))))))))))))
   ·(try simp only[nb,Xv]at eJ);refine ae (xa 2 (V aF (V aA (xc (ah ?_)))));refine⟨_,cS,?_⟩;rw[hh,J,Xu (by simpa using eJ)];rfl
   ·(try simp only[nb,Xv]at eJ);refine wO ?_;change dG _ _ _ _ _;refine xa 2 ?_;refine V (lE E E xi) (V aF (rn ?_));refine⟨k+1,⟨by omega,by rw[hh,J,Xr (by simpa using eJ)]⟩,by omega,?_⟩;exact xh (ms:=[]) (by repeat (first|exact Out.head E E|(refine Out.put ?_ E))) ⟨(by rfl),trivial⟩ trivial
  ·(try simp only[nb,Xv]at bV);refine bJ ?_;change dG _ _ _ _ _;refine ae (xa 1 (V aA (xc (ah ?_))));refine⟨_,cS,?_⟩;rw[hh,Yu (by omega)];rfl
theorem yH{α:Type}(f:α->Bool):∀(l:List α) (i:Nat),decide (0<=idxOf f i l)=l.any f
 | [],i=>by unfold idxOf;simp
 | x::xs,i=>by
  unfold idxOf;by_cases h:f x=true
  ·rw[Xu h];simp[h]
  ·rw[Xr h,yH f xs];simp[h]
theorem yG{α:Type}(f:α->Bool)(l:List α):decide (0<=idxOf f 0 l)=l.any f:=yH f l 0
theorem xL(f:Int->Bool)(g:ϋ)(cap:List D)(Vm:cA qP g=true)(l:List Int)(hf:∀a∈l,PC qP g (.v (.int .i64 a)::cap) (.v (.bool (f a)))):PC qP 105 [.sl 1 (l.map iC),.fn (.func g) cap] (.v (.bool (l.any f))):=by
 have hm:=yG f l;refine av (qA func105 E) E ntmps105 results105 λw0=>ae (xa 1 (V aA (rs (xa 5 (V (aq (x:=.d (.sl _ _)) E) (V (aq (x:=.d (.fn _ _)) E) (V (ak aq0 (.cons E (.cons E .nil)) E (FO f g cap Vm l hf)) (V (Hj E E) (V aA (xc (ah ?_)))))))))));refine⟨_,cS,?_⟩;rw[<-hm];rfl
structure Spc where
 ar:rX
 pl:List Int
 fl:List Flw
def au4(s:Spc):List D:=[.sl 2 (s.ar.el.map wq),.v (.int .i64 s.ar.ou.w),.v (.int .i64 s.ar.ou.m),.v (.int .i64 s.ar.ou.k),.v (.int .i64 s.ar.ou.t),.v (.int .i64 s.ar.ba.w),.v (.int .i64 s.ar.ba.m),.v (.int .i64 s.ar.ba.k),.v (.int .i64 s.ar.ba.t),.v (.int .i64 s.ar.ts.1),.v (.int .i64 s.ar.ts.2),.sl 1 (s.pl.map iC),.sl 8 (s.fl.map aC6)]
def iv(n:Int):D:=.v (.int .i64 n)
def fv(n:Int):D:=.v (.float .f32 (FloatKind.f32.nearest n))
def fC(b:Nat):List D:=[.v (.float .f32 b)]
def fz:D:=.v (.float .f32 0)
theorem yf{cs xs:List D}(h:xs.length=cs.length):dL cs 0 xs=xs:=by
 unfold dL;rw[List.take_zero,XK,h,ZI];simp
def fd(b:Nat):D:=.v (.float .f32 b)
theorem Ny(l:List Nat):((l.map fd).map λd=>[d])=l.map fC:=by rw[List.map_map];rfl
theorem cX(n lo hi:Int):PC qP 42 [.v (.int .i64 (n)),.v (.int .i64 (lo)),.v (.int .i64 (hi))] (.v (.bool (dP lo n hi))):=by
 refine av (qA func42 E) E ntmps42 results42 λw0=>ae (xa 1 (V aA (rs (xa 9 (V aF (V aF (V (iG E E) (V aF (aE E E (λhG=>aF) (aE E E (λhG=>aF) (aE E E (λhG=>(iG E E)) (aT E E E E E E ?_))))))))))));refine V aA (xc (ah ?_));refine⟨_,cS,?_⟩;unfold dP;simp only[gX];rfl
variable{P:Z4}{w0:Cx}{n:Nat}{s:Nat->aH}{ev:Z6->T}{dst:Option Tmp}{ty:Z5}{pos:String}{after:Array Edge}{g:Option (Nat × Bool)}
theorem Lp{t:Z5}{y:Z6}{f off m:Nat}{ft:Z5}{cs ds:List D}(ht:(match P.underlying t with|some (.struct fs)=>(fs[f]?).map (λfd=>(fd.offset,fd.type))|_=>none)=some (off,ft))(hs:szB P ft true m=true)(hy:ev y=.d (.agg cs))(J:(cs.drop off).take m=ds)(hl:ds.length=m):QOp P w0 n s ev ⟨dst,.field t y f,ty,pos,after,g⟩ (.d (.agg ds)):=
 .mk λa w ok blk val h _ qW=>by
  subst J;obtain⟨vs,hv,hL,jO⟩:=oD (show iN w _ (.agg cs) (a.eval y) by have:=h y;rw[hy]at this;exact this);have hlen:vs.length=cs.length:=hL.length;refine⟨.agg ((vs.drop off).take m).toArray,w,?_,Ext.refl w,?_⟩
  ·cases hu:P.underlying t with
   | none=>simp[hu]at ht
   | some q=>
    cases q<;>simp only[hu,reduceCtorEq]at ht
    rename_i fs
    cases hf:fs[f]? with
    | none=>simp[hf]at ht
    | some fd=>
     simp only[hf,XB,XS,ZM]at ht;have⟨e1,e2⟩:=ht;subst e1;subst e2;simp[execOp,Instr.field,run_underlying hu,hf,hv,asAgg,part,gn hs,ju hs]
  ·refine iN.agg _ _ (by rw[Ya,ZW,Ya,ZW,hlen]) (λj d hj=>?_) (λj d v hj hv=>?_)
   ·rw[Yq]at hj
    split at hj
    ·rw[Yk]at hj;exact jO _ d hj
    ·cases hj
   ·rw[Yq]at hj hv
    split at hj
    ·rename_i J6
     rw[Xu J6,Yk]at hv;rw[Yk]at hj;exact hL.get _ d v hj hv
    ·cases hj
def af3:Md:=⟨2500,5000,0,1000⟩
def af2:Spc:=⟨⟨[(0,-300)],af3,af3,(3900000,50000)⟩,[3,-2],[⟨0,(0,400),(0,0),0,10,0⟩]⟩
def exB:List Nat:=0::0::1106247680::3248488448::List.replicate 60 0
theorem af1  : PC qP 63 [] (.agg (au4 af2)):=by
 refine av (qA func63 E) E ntmps63 results63 λw0=>ae (xa 0 (aw (bL R4 E E E (ai (xq (xa 1 ?_))))));refine V (bz (cs:=[_,_,_,_]) av8 Xh E (.cons E E' (.cons E E' (.cons E E' .nil))) ⟨⟨rfl,by decide⟩,⟨rfl,by decide⟩,⟨rfl,by decide⟩,trivial⟩ E) (aw (bL Xh E E E (ay lh E E H' E E (by decide) E (ai (xq (xa 11 ?_))))));refine V (bz (cs:=[_,_]) LG r9 E (.cons E E' (.cons E E' .nil)) ⟨⟨rfl,by decide⟩,⟨rfl,by decide⟩,trivial⟩ E) (V (bu xg r9 E E (by decide) (.cons E H' .nil) ⟨rfl,rfl,trivial⟩ E (by decide) E) (V (aX (ds:=[_,_,_,_]) lh E E E E) (V (aX (ds:=[_,_,_,_]) lh E E E E) ?_)));refine V (bz (cs:=[_,_]) av7 at5 E (.cons E E' (.cons E E' .nil)) ⟨⟨rfl,by decide⟩,⟨rfl,by decide⟩,trivial⟩ E) ?_;refine V (bz (cs:=[_,_,_,_,_,_,_,_,_,_,_]) av6 Xe E (.cons E E' (.cons E H' (.cons E H' (.cons E H' .nil)))) ⟨⟨rfl,by decide⟩,⟨rfl,by decide⟩,⟨rfl,by decide⟩,⟨rfl,by decide⟩,trivial⟩ E) (V (bu gK Br E E (by decide) (.cons E E' (.cons E E' .nil)) ⟨rfl,rfl,rfl,rfl,trivial⟩ E (by decide) E) ?_);refine V (bz (cs:=[_,_]) LG r9 E (.cons E E' (.cons E E' .nil)) ⟨⟨rfl,by decide⟩,⟨rfl,by decide⟩,trivial⟩ E) ?_;refine V (bz (cs:=[_,_,_,_,_,_,_,_]) ae6 R3 E (.cons E H' (.cons E E' .nil)) ⟨⟨rfl,by decide⟩,⟨rfl,by decide⟩,trivial⟩ E) (V (bu ac1 R3 E E (by decide) (.cons E H' .nil) ⟨rfl,rfl,trivial⟩ E (by decide) E) ?_);refine V (bz ae7 R4 E (.cons E H' (.cons E E' (.cons E E' .nil))) ⟨⟨rfl,by decide⟩,⟨rfl,by decide⟩,⟨rfl,by decide⟩,trivial⟩ E) (aw (ay Sb E E H' E E (by decide) E (ai ?_)));change dG _ _ _ _ _;refine ah ?_;refine⟨_,(.cons (.dn E E Sb E) .nil),?_⟩;rfl
theorem IV(p:Int × Int):PC qP 125 [.agg (wq p)] (.v (.bool ((dP (-100000) p.1 100000&&dP (-100000) p.2 100000)))):=by
 refine av (qA func125 E) E ntmps125 results125 λw0=>ae (xa 2 (V (aP E H') (V aA (rs (xa 9 (V (af gU E) (V (aj mF E E) (V (ak nA (.cons E (.cons E (.cons E .nil))) E (cX _ _ _)) (V aF (aE E E (λhG=>(af dQ E)) (aE E E (λhG=>(aj mF E E)) (aE E E (λhG=>(ak nA (.cons E (.cons E (.cons E .nil))) E (cX _ _ _))) (aT E E E E E E ?_)))))))))))));refine V aA (xc (ah ?_));refine⟨_,cS,?_⟩;simp only[gX];rfl
theorem KW(p:Int × Int):iT p=if (dP (-100000) p.1 100000&&dP (-100000) p.2 100000)=true then 0 else 2:=by
 by_cases h:iT p=0
 ·rw[h]
  have:=nP.1 h;rw[Xu (by simp[dP];omega)]
 ·have h2 : iT p = 2 := by
   unfold iT g9 at h ⊢
   split at h
   ·exact absurd E h
   ·rename_i q;rw[Xr q]
  rw[h2,Xr];intro q;simp[dP]at q;exact h (nP.2 (by omega))
theorem Jg(m:Md):(if firstE [gw m.w,gw m.m]≠0 then firstE [gw m.w,gw m.m] else if (!dP 0 m.k 4 || !dP 2 m.t 20000)=true then 2 else 0)=gP m:=by
 unfold gP g9 firstE;by_cases h1:gw m.w=0
 ·simp only[firstE,h1,Yp]
  by_cases h2:gw m.m=0
  ·simp only[h2,Yp]
   cases dP 0 m.k 4<;>cases dP 2 m.t 20000<;>simp
  ·simp[h2]
 ·simp[firstE,h1]
theorem s8(v:Int):PC qP 149 [.v (.int .i64 (v))] (.v (.int .i64 (gw v))):=by
 refine av (qA func149 E) E ntmps149 results149 λw0=>ae (xa 1 (V aA (rs (ae (xa 3 (V aF (V (ak nA (.cons E (.cons E (.cons E .nil))) E (cX _ _ _)) (V (bX E) (xc (ao E (λbW=>?_) (λbW=>?_)))))))))))
 ·(try simp only[nb,Xv]at bW);have hz:gw v=2:=by unfold gw g9;rw[Xr (by simp_all)]
  refine ae (xa 1 (V aA (xc (ah ?_))));refine⟨_,cS,?_⟩;rw[hz];rfl
 ·(try simp only[nb,Xv]at bW);have hz:gw v=0:=by unfold gw g9;rw[Xu (by simp_all)]
  refine wO ?_;change dG _ _ _ _ _;refine ae (xa 1 (V aA (xc (ah ?_))));refine⟨_,cS,?_⟩;rw[hz];rfl
theorem JA(l:List Int):PC qP 148 [.sl 1 (l.map iC)] (.v (.int .i64 (firstE l))):=by
 refine av (qA func148 E) E ntmps148 results148 λw0=>ae (xa 1 (V aA (rs (ae (xa 1 (V aA (xc (az (bG [2,3,4,5,6,7,8,9,10,11,12,13,14,15,16,17,18] [] (α:=Nat) (λk=>[(3,T.i (k:Int))]) (λk=>[]) (λk=>k<=l.length/\firstE l=firstE (l.drop k)) (λk=>l.length - k) 0 ⟨XC _,rfl⟩ ?_ ?_)))))))))
 ·exact xh (ms:=[]) (by repeat (exact Out.refl _)) ⟨(by rfl),trivial⟩ trivial
 ·intro k ⟨hk,hf⟩;refine ae (ae (xa 4 (V aF (V (aq (x:=.d (.sl _ _)) E) (V (cd iX E (by exact aV _ _)) (V (cM E E) (xc (bm (t:=5) E (λQ1=>?_)))))))));(try simp only[Xo]at Q1);refine ao E (λbV=>?_) (λbV=>?_)
  ·(try simp only[nb,Xv]at bV);have bH:k<l.length:=by omega
   obtain⟨y,hx⟩:∃y,l[k]?=some y:=⟨_,Xp bH⟩
   have J:firstE (l.drop k)=if y=0 then firstE (l.drop (k+1)) else y:=by
    rw[Yf bH,(Xt.1 hx).2];rfl
   refine wO ?_;change dG _ _ _ _ _;refine ae (az (ae (xa 5 (V (aq (x:=.d (.sl _ _)) E) (V aF (V (aJ gK E E (by omega) (cm (by omega) hx)) (V (aj mF E E) (V (bS E E) (xc (ao E (λeJ=>?_) (λeJ=>?_)))))))))))
   ·(try simp only[nb,Xv]at eJ);refine ae (xa 5 (V (aq (x:=.d (.sl _ _)) E) (V aF (V (aJ gK E E (by omega) (cm (by omega) hx)) (V (aj mF E E) (V aA (xc (ah ?_))))))));refine⟨_,cS,?_⟩;rw[hf,J,Xr (by omega)];rfl
   ·(try simp only[nb,Xv]at eJ);refine wO ?_;change dG _ _ _ _ _;refine xa 3 (V aF ?_);refine V (lE E E xi) (V aA (rn ?_));refine⟨k+1,⟨by omega,by rw[hf,J,Xu (by omega)]⟩,by omega,?_⟩;exact xh (ms:=[]) (by repeat (first|exact Out.head E E|(refine Out.put ?_ E))) ⟨(by rfl),trivial⟩ trivial
  ·(try simp only[nb,Xv]at bV);refine bJ ?_;change dG _ _ _ _ _;refine ae (xa 1 (V aA (xc (ah ?_))));refine⟨_,cS,?_⟩;rw[hf,Yu (by omega)];rfl
theorem pX(m:Md):PC qP 126 [.agg (O6 m)] (.v (.int .i64 (gP m))):=by
 have Y:=Jg m;refine av (qA func126 E) E ntmps126 results126 λw0=>ae (xa 2 (V (aP E H') (V aA (rs (ae (xa 9 (V (af AL E) (V (aj mF E E) (V (ak To (.cons E .nil) E (s8 _)) (V (af AK E) (V (aj mF E E) (V (ak To (.cons E .nil) E (s8 _)) (V (bu gK Br E E (by decide) (.cons E E' (.cons E E' .nil)) ⟨rfl,rfl,rfl,rfl,trivial⟩ E (by decide) E) (V (ak ap1 (.cons E .nil) E (JA [_,_])) (V aA (rs (xa 2 (V aF (V (bS E E) (xc (ao E (λbV=>?_) (λbV=>?_))))))))))))))))))))))
 ·(try simp only[nb,Xv]at bV);rw[Xu bV]at Y;refine ae (xa 2 (V aF (V aA (xc (ah ?_)))));refine⟨_,cS,?_⟩;rw[<-Y];rfl
 ·(try simp only[nb,Xv]at bV);rw[Xr (λh=>h bV)]at Y;refine wO ?_;change dG _ _ _ _ _;refine ae (ae (xa 10 (V (af rf E) (V (aj mF E E) (V (ak nA (.cons E (.cons E (.cons E .nil))) E (cX _ _ _)) (V (bX E) (V aF (aE E E (λhG=>(af fD E)) (aE E E (λhG=>(aj mF E E)) (aE E E (λhG=>(ak nA (.cons E (.cons E (.cons E .nil))) E (cX _ _ _))) (aE E E (λhG=>(bX E)) (aT E E E E E E ?_))))))))))));refine xc (ao E (λeJ=>?_) (λeJ=>?_))
  ·(try simp only[nb,Xv]at eJ);rw[Xu (by simp_all)]at Y;refine ae (xa 1 (V aA (xc (ah ?_))));refine⟨_,cS,?_⟩;rw[<-Y];rfl
  ·(try simp only[nb,Xv]at eJ);rw[Xr (by simp_all)]at Y;refine wO ?_;change dG _ _ _ _ _;refine ae (xa 1 (V aA (xc (ah ?_))));refine⟨_,cS,?_⟩;rw[<-Y];rfl
theorem sA(s:Int × Int):PC qP 127 [.agg (wq s)] (.v (.int .i64 (ln s))):=by
 refine av (qA func127 E) E ntmps127 results127 λw0=>ae (xa 2 (V (aP E H') (V aA (rs (ae (xa 10 (V (af AJ E) (V (aj mF E E) (V (ak nA (.cons E (.cons E (.cons E .nil))) E (cX _ _ _)) (V (bX E) (V aF (aE E E (λhG=>(af uF E)) (aE E E (λhG=>(aj mF E E)) (aE E E (λhG=>(ak nA (.cons E (.cons E (.cons E .nil))) E (cX _ _ _))) (aE E E (λhG=>(bX E)) (aT E E E E E E ?_))))))))))))))));refine xc (ao E (λbW=>?_) (λbW=>?_))
 ·(try simp only[nb,Xv]at bW);have hz:ln s=2:=by unfold ln;rw[Xr (by intro h;simp_all)]
  refine ae (xa 1 (V aA (xc (ah ?_))));refine⟨_,cS,?_⟩;rw[hz];rfl
 ·(try simp only[nb,Xv]at bW);have hz:ln s=0:=by unfold ln;rw[Xu (by simp_all)]
  refine wO ?_;change dG _ _ _ _ _;refine ae (xa 1 (V aA (xc (ah ?_))));refine⟨_,cS,?_⟩;rw[hz];rfl
theorem VP(p:Int × Int):JE p=if (dP (-100000) p.1 100000&&dP (-100000) p.2 100000)=true then (if 0<=p.2 then 15 else 0) else 2:=by
 unfold JE;rw[KW p];by_cases h:(dP (-100000) p.1 100000&&dP (-100000) p.2 100000)=true
 ·rw[Xu h,Xu h]
  unfold firstE;rw[Xu E];unfold firstE c9;by_cases h2:0<=p.2
  ·simp[firstE,h2]
  ·simp[firstE,h2]
 ·rw[Xr h,Xr h];rfl
theorem VA(a b c d:Int):firstE [a,b,c,d]=if a≠0 then a else if b≠0 then b else if c≠0 then c else d:=by
 unfold firstE;by_cases h1:a=0
 ·rw[Xu h1,Xr (λq=>q h1)]
  unfold firstE;by_cases h2:b=0
  ·rw[Xu h2,Xr (λq=>q h2)]
   unfold firstE;by_cases h3:c=0
   ·rw[Xu h3,Xr (λq=>q h3)]
    unfold firstE;by_cases h4:d=0
    ·rw[Xu h4,h4];rfl
    ·rw[Xr h4]
   ·rw[Xr h3,Xu h3]
  ·rw[Xr h2,Xu h2]
 ·rw[Xr h1,Xu h1]
theorem B3(a:rX):PC qP 93 [.agg (rN a)] (.da [.v (.int .i64 ((dJ a).1)),.v (.int .i64 ((dJ a).2))]):=by
 have hu:dJ a=if a.el.length=0 then (0,10) else if 16<a.el.length then (0,8) else if (ckEls 0 a.el).2≠0 then ckEls 0 a.el else (0,y6 a):=rfl
 have h4:y6 a=if gP a.ou≠0 then gP a.ou else if gP a.ba≠0 then gP a.ba else if c9 (decide (a.ou.t≠a.ba.t)) 23≠0 then c9 (decide (a.ou.t≠a.ba.t)) 23 else ln a.ts:=VA _ _ _ _
 refine av (qA func93 E) E ntmps93 results93 λw0=>ae (xa 3 (V (aP E H') (V aA (V aA (rs (ae (xa 4 (V (af du E) (V (aj jP E E) (V (cd kA E (by exact aV _ _)) (V (fG E E) (xc (bm (t:=8) E (λMW=>?_))))))))))))));(try simp only[Xo]at MW);refine ao E (λbW=>?_) (λbW=>?_)
 ·(try simp only[nb,Xv]at bW);rw[Xu (by omega)]at hu;refine ae (xa 2 (V aA (V aA (xc (ah ?_)))));refine⟨_,gz,?_⟩;rw[hu];rfl
 ·(try simp only[nb,Xv]at bW);rw[Xr (by omega)]at hu;refine wO ?_;change dG _ _ _ _ _;refine ae (ae (xa 4 (V (af du E) (V (aj jP E E) (V (cd kA E (by exact aV _ _)) (V (gM E E) (xc (bm (t:=12) E (λMZ=>?_)))))))));(try simp only[Xo]at MZ);refine ao E (λdB=>?_) (λdB=>?_)
  ·(try simp only[nb,Xv]at dB);rw[Xu (by omega)]at hu;refine ae (xa 2 (V aA (V aA (xc (ah ?_)))));refine⟨_,gz,?_⟩;rw[hu];rfl
  ·(try simp only[nb,Xv]at dB);rw[Xr (by omega)]at hu;refine wO ?_;change dG _ _ _ _ _;refine ae (ae (xa 1 (V aA (xc (az (bG [2,3,4,15,16,17,18,19,20,21,22,23,24,25,26,27,28,29,30,31,32,33,34,35,36,37] [] (α:=Nat) (λk=>[(4,T.i (k:Int))]) (λk=>[]) (λk=>k<=a.el.length/\ckEls 0 a.el=ckEls k (a.el.drop k)) (λk=>a.el.length - k) 0 ⟨XC _,rfl⟩ ?_ ?_))))))
   ·exact xh (ms:=[]) (by repeat (exact Out.refl _)) ⟨(by rfl),trivial⟩ trivial
   ·intro k ⟨hk,hf⟩;refine ae (ae (xa 5 (V aF (V (af du E) (V (aj jP E E) (V (cd kA E (by exact aV _ _)) (V (cM E E) (xc (bm (t:=17) E (λVd=>?_))))))))));(try simp only[Xo]at Vd);refine ao E (λwx=>?_) (λwx=>?_)
    ·(try simp only[nb,Xv]at wx);have bH:k<a.el.length:=by omega
     obtain⟨x,hx⟩:∃x,a.el[k]?=some x:=⟨_,Xp bH⟩;have J:=DI hx;have he:=VP x;refine wO ?_;change dG _ _ _ _ _;refine ae (az (ae (ae (xa 7 (V (af du E) (V (aj jP E E) (V aF (V (aJ xg E E (by omega) (cm (by omega) hx)) (V (ax (ds:=[_,_]) fM E E E) (V (ak aq3 (.cons E .nil) E (IV _)) (V (bX E) (xc (ao E (λoM=>?_) (λoM=>?_))))))))))))))
     ·(try simp only[nb,Xv]at oM);rw[Xr (by rcases oM with q|q<;>simp[q])]at he;have hz:ckEls 0 a.el=((k:Int),2):=by rw[hf,J,he];rfl
      rw[hz]at hu;refine ae (xa 3 (V aF (V aA (V aA (xc (ah ?_))))));refine⟨_,gz,?_⟩;rw[hu];rfl
     ·(try simp only[nb,Xv]at oM);rw[Xu (by simp[oM.1,oM.2])]at he;refine wO ?_;change dG _ _ _ _ _;refine ae (xa 7 (V (af du E) (V (aj jP E E) (V aF (V (aJ xg E E (by omega) (cm (by omega) hx)) (V (af dQ E) (V (aj mF E E) (V (Hj E E) (xc (ao E (λlF=>?_) (λlF=>?_)))))))))))
      ·(try simp only[nb,Xv]at lF);rw[Xu lF]at he;have hz:ckEls 0 a.el=((k:Int),15):=by rw[hf,J,he];rfl
       rw[hz]at hu;refine ae (xa 3 (V aF (V aA (V aA (xc (ah ?_))))));refine⟨_,gz,?_⟩;rw[hu];rfl
      ·(try simp only[nb,Xv]at lF);rw[Xr (by omega)]at he;refine wO ?_;change dG _ _ _ _ _;refine xa 3 (V aF ?_);refine V (lE E E xi) (V aA (rn ?_));refine⟨k+1,⟨by omega,by rw[hf,J,Xr (by rw[he];simp)]⟩,by omega,?_⟩;exact xh (ms:=[]) (by repeat (first|exact Out.head E E|(refine Out.put ?_ E))) ⟨(by rfl),trivial⟩ trivial
    ·(try simp only[nb,Xv]at wx);have Vh:ckEls 0 a.el=(0,0):=by rw[hf,Yu (by omega)];rfl
     rw[Vh,Xr (by decide)]at hu;refine bJ ?_;change dG _ _ _ _ _;refine ae (ae (xa 4 (V (af iA E) (V (ax (ds:=[_,_,_,_]) lh E E E) (V (ak Ts (.cons E .nil) E (pX a.ou)) (V aA (rs (xa 2 (V aF (V (bS E E) (xc (ao E (λoN=>?_) (λoN=>?_)))))))))))))
     ·(try simp only[nb,Xv]at oN);rw[Xu oN]at h4;refine ae (xa 3 (V aF (V aA (V aA (xc (ah ?_))))));refine⟨_,gz,?_⟩;rw[hu,h4];rfl
     ·(try simp only[nb,Xv]at oN);rw[Xr (λq=>q oN)]at h4;refine wO ?_;change dG _ _ _ _ _;refine ae (ae (xa 4 (V (af om E) (V (ax (ds:=[_,_,_,_]) lh E E E) (V (ak Ts (.cons E .nil) E (pX a.ba)) (V aA (rs (xa 2 (V aF (V (bS E E) (xc (ao E (λqM=>?_) (λqM=>?_)))))))))))))
      ·(try simp only[nb,Xv]at qM);rw[Xu qM]at h4;refine ae (xa 3 (V aF (V aA (V aA (xc (ah ?_))))));refine⟨_,gz,?_⟩;rw[hu,h4];rfl
      ·(try simp only[nb,Xv]at qM);rw[Xr (λq=>q qM)]at h4;refine wO ?_;change dG _ _ _ _ _;refine ae (ae (xa 7 (V (af iA E) (V (af fD E) (V (aj mF E E) (V (af om E) (V (af fD E) (V (aj mF E E) (V (bS E E) (xc (ao E (λl7=>?_) (λl7=>?_))))))))))))
       ·(try simp only[nb,Xv]at l7);have hw:c9 (decide (a.ou.t≠a.ba.t)) 23=23:=by unfold c9;rw[Xu (ZS l7)]
        rw[hw,Xu (by decide)]at h4;refine ae (xa 2 (V aA (V aA (xc (ah ?_)))));refine⟨_,gz,?_⟩;rw[hu,h4];rfl
       ·(try simp only[nb,Xv]at l7);have hw:c9 (decide (a.ou.t≠a.ba.t)) 23=0:=by unfold c9;rw[Xr (by simpa using l7)]
        rw[hw,Xr (by decide)]at h4;refine wO ?_;change dG _ _ _ _ _;refine ae (xa 5 (V (af q9 E) (V (ax (ds:=[_,_]) ab4 E E E) (V (ak aq2 (.cons E .nil) E (sA _)) (V aA (V aA (xc (ah ?_))))))));refine⟨_,gz,?_⟩;rw[hu,h4];rfl
theorem DD(l:List (Int × Int))(hl:l.length<=1000):PC qP 92 [.sl 2 (l.map wq)] (.sl 2 (l.map wq)):=by
 refine av (qA func92 E) E ntmps92 results92 λw0=>ae (xa 1 (V (aG (x:=.d (.sl _ _)) E) (rs (xa 4 (V (B7 xg r9) (V (aq (x:=.d (.sl _ _)) E) ?_))))));refine V (yq xg r9 aG2 E (by decide) E E E (by (try simp only[Xo]);omega) (by (try simp only[Xo]);omega)) (V (aG (x:=.d (.sl _ _)) E) (xc (ah ?_)));refine⟨_,cS,?_⟩;rfl
theorem JI(a:rX)(hl:a.el.length<=1000):PC qP 40 [.agg (rN a)] (.agg (rN a)):=by
 refine av (qA func40 E) E ntmps40 results40 λw0=>ae (xa 0 (aw (D6 (X:=.agg (rN a)) E H' E E E ?_)));refine bL Xe E E E (ai (xq (xa 4 (V (aC du E) (V (aQ jP E E E) (V (ak aD1 (.cons E .nil) E (DD _ (by omega))) (V (aC du E) (aw (ay jP E E E' E E (by exact Nat.le_of_ble_eq_true E) E (ai (xq (xa 1 (V (aX (ds:=[_,_,_,_,_,_,_,_,_,_,_]) po E E E E) (aw (ay po E E H' E E (by decide) E (ai ?_))))))))))))))));change dG _ _ _ _ _;refine ah ?_;refine⟨_,(.cons (.dn E E po E) .nil),?_⟩;rfl
theorem BA(n m:Int)(h1:0<=m)(h2:m<=1000000000000):PC qP 45 [.v (.int .i64 (n)),.v (.int .i64 (m))] (.v (.bool (dP (-m) n m))):=by
 refine av (qA func45 E) E ntmps45 results45 λw0=>ae (xa 1 (V aA (rs (xa 6 (V aF (V aF ?_))))));refine V (tw E xi) (V aF (V (ak NK (.cons E (.cons E (.cons E .nil))) E (ld _ _ _)) (V aA (xc (ah ?_)))));refine⟨_,cS,?_⟩;rfl
structure Wm(b:Nat)(n:Int):Prop where
 lo : -2047<=n
 hi:n<=2047
 self:ordB .neq (FloatKind.f32.format.order b b)=false
 sub:floatBits .sub .f32 b b=some 0
 ge:ordB .geq (FloatKind.f32.format.order b 1266679808)=false
 le:ordB .leq (FloatKind.f32.format.order b 3414163456)=false
 int:floatToIntVal .f32 b .i64=some n
 back:ordB .neq (FloatKind.f32.format.order (FloatKind.f32.nearest n) b)=false
def vI(b:Nat):Int:=(floatToIntVal .f32 b .i64).getD 0
theorem Wm.v{b:Nat}{n:Int}(h:Wm b n):vI b=n:=by unfold vI;rw[h.int];rfl
theorem TQ{n:Int}(h1 : -2047<=n)(h2:n<=2047):Wm (FloatKind.f32.nearest n) n:=by
 have hf:=wH (show -16777215<=n by omega) (by omega);refine⟨h1,h2,AP hf,?_,Rp hf,Ro hf,AQ hf,AP hf⟩;have h:=Rl hf hf (by rw[ZY];exact wH (by decide) (by decide));rw[ZY]at h;exact h
theorem Bw:ordB .neq (FloatKind.f32.format.order 0 0)=false:=AP (a:=0) (wH (by decide) (by decide))
def ud(bs:List Nat):Prop:=∀b∈bs,Wm b (vI b)
theorem zo(b:Nat)(n:Int)(h:Wm b n):PC qP 151 [fd b] (.v (.int .i64 (0))):=by
 have h1:=h.lo;have h2:=h.hi;have Y:dP (-2047) n 2047=true:=by simp[dP];omega
 refine av (qA func151 E) E ntmps151 results151 λw0=>ae (xa 1 (V aA (rs (az (ae (xa 10 (V aF (V aF (V (e9 (by decide) E E h.self) (V aF (aE E E (λhG=>aF) (aE E E (λhG=>aF) (aE E E (λhG=>(Ff (by decide) E E h.sub)) (aE E E (λhG=>(e9 (by decide) E E Bw)) (aT E E E E E E ?_)))))))))))))));refine V aA (xc (ao E (λbW=>?_) (λbW=>?_)))
 ·cases bW
 ·(try simp only[nb,Xv]at bW);refine ae (xa 7 (V aF (V (e9 (by decide) E E h.ge) (V aF (aE E E (λhG=>aF) (aE E E (λhG=>(e9 (by decide) E E h.le)) (aT E E E E E E ?_)))))));refine V aA (xc (ao E (λdB=>?_) (λdB=>?_)))
  ·cases dB
  ·(try simp only[nb,Xv]at dB);refine ae (xa 6 (V aF (V (iH ik vU E h.int) (V (lW vU ik E) (V aF (V (e9 (by decide) E E h.back) (V aA (xc (ao E (λeU=>?_) (λeU=>?_))))))))))
   ·cases eU
   ·(try simp only[nb,Xv]at eU);refine ae (xa 5 (V aF (V (iH ik vU E h.int) (V (ak an0 (.cons E (.cons E .nil)) E (BA _ _ (by omega) (by omega))) (V (bX E) (V aA (xc (ao E (λmo=>?_) (λmo=>?_)))))))))
    ·rw[show dP (-2047) n 2047=true from Y]at mo
     cases mo
    ·(try simp only[nb,Xv]at mo);refine wO ?_;change dG _ _ _ _ _;refine ae (xa 1 (V aA (xc (ah ?_))));refine⟨_,cS,?_⟩;rfl
theorem oP(l:List Nat)(hb:ud l):PC qP 129 [.sl 1 (l.map fC)] (.da [.v (.int .i64 (0)),.v (.int .i64 (0))]):=by
 refine av (qA func129 E) E ntmps129 results129 λw0=>ae (xa 2 (V aA (V aA (rs (ae (xa 3 (V (aq (x:=.d (.sl _ _)) E) (V (cd qD E (by exact aV _ _)) (V aF (xc (bm (t:=7) E (λhl7=>?_))))))))))));(try simp only[Xo]at hl7);refine az (bG [2,3,4,5,6,9,10,11,12,13,14,15,16,17,18,19,20] [] (α:=Nat) (λk=>[(9,T.i (k:Int))]) (λk=>[]) (λk=>k<=l.length) (λk=>l.length - k) 0 (XC _) ?_ ?_)
 ·exact xh (ms:=[]) (by repeat (exact Out.refl _)) ⟨(by rfl),trivial⟩ trivial
 ·intro k hk;refine ae (xa 1 (V (cM E E) (rs (ao E (λbV=>?_) (λbV=>?_)))))
  ·(try simp only[nb,Xv]at bV);have bH:k<l.length:=by omega
   obtain⟨x,hx⟩:∃x,l[k]?=some x:=⟨_,Xp bH⟩;have hx1:=hb x (XA hx);refine wO ?_;change dG _ _ _ _ _;refine ae (az (ae (xa 5 (V aF (V (aJ xf E E (by omega) (cm (by omega) hx)) (V (aj xV E E) (V aA (V aA (rs (xa 3 (V aF (V (ak Tn (.cons E .nil) E (zo _ _ (by assumption))) (V aA (rs (xa 2 (V aF (V (bS E E) (xc (ao E (λeU=>?_) (λeU=>?_))))))))))))))))))))
   ·simp at eU
   ·(try simp only[nb,Xv]at eU);refine wO ?_;change dG _ _ _ _ _;refine xa 2 ?_;refine V (lE E E xi) (V aF (rn ?_));refine⟨k+1,by omega,by omega,?_⟩;exact xh (ms:=[]) (by repeat (first|exact Out.head E E|(refine Out.put ?_ E))) ⟨(by rfl),trivial⟩ trivial
  ·(try simp only[nb,Xv]at bV);refine bJ ?_;change dG _ _ _ _ _;refine ae (xa 2 (V aA (V aA (xc (ah ?_)))));refine⟨_,gz,?_⟩;rfl
theorem Nv(l:List Nat)(hS:l.length=64)(hb:ud l):PC qP 147 [.agg (l.map fd)] (.da [.v (.int .i64 (0)),.v (.int .i64 (0))]):=by
 refine av (qA func147 E) E ntmps147 results147 λw0=>ae (xa 3 (V (aP E H') (V aA (V aA (rs (xa 6 ?_))))));refine V (Ll (es:=l.map fC) OB E (by show (l.map fd).length=64;rw[Xo];exact hS) (by decide) (by decide) (Ny l)) (V (ak NQ (.cons E .nil) E (oP l hb)) (V (au E E) (V (au E E) (V aA (V aA (xc (ah ?_)))))));refine⟨_,gz,?_⟩;rfl
theorem EJ(l:List Nat)(hS:l.length=64)(hb:ud l):PC qP 117 [.agg (l.map fd)] (.v (.int .i64 (0))):=by
 refine av (qA func117 E) E ntmps117 results117 λw0=>ae (xa 2 (V (aP E H') (V aA (rs (xa 7 ?_)))));refine V (ax (ds:=l.map fd) KD E (by rw[Z1];exact Yo (by show (l.map fd).length<=64;rw[Xo];omega)) (by rw[Xo];exact hS)) (V (ak ap2 (.cons E .nil) E (Nv _ (by assumption) (by assumption))) (V (aq (x:=.d (.da _)) E) (V (au E E) (V (au E E) (V aA (V aA (rs (xa 2 (V aF (V aA (xc (ah ?_))))))))))));refine⟨_,cS,?_⟩;rfl
theorem xM(ne:Int)(l:List Nat)(h1:1<=ne)(h2:ne<=16)(hl:(l.length:Int)=ne*ne*64)(hb:ud l):PC qP 97 [.agg [.v (.int .i64 (ne)),.sl 1 (l.map fC)]] (.da [.v (.int .i64 (0)),.v (.int .i64 (0))]):=by
 have hm:=lX (a:=ne) (b:=ne) (A:=16) (B:=16) (by omega) (by omega) (by omega) (by omega);refine av (qA func97 E) E ntmps97 results97 λw0=>ae (xa 3 (V (aP E H') (V aA (V aA (rs (az (ae (xa 5 (V (af fB E) (V (aj mF E E) (V (ak NK (.cons E (.cons E (.cons E .nil))) E (ld _ _ _)) (V (bX E) (V aA (xc (ao E (λbW=>?_) (λbW=>?_))))))))))))))))
 ·simp[dP]at bW;omega
 ·(try simp only[nb,Xv]at bW);refine ae (xa 11 (V (af fU E) (V (aj oF E E) (V (cd qD E (by exact aV _ _)) (V (af fB E) (V (aj mF E E) (V (af fB E) (V (aj mF E E) ?_))))))));refine V (cZ E E xi) ?_;refine V (cZ E E xi) (V (bS E E) (V aA (xc (bm (t:=11) E (λVe=>?_)))));(try simp only[Xo]at Ve);refine ao E (λdB=>?_) (λdB=>?_)
  ·rw[XW]at dB;exact absurd hl dB
  ·(try simp only[nb,Xv]at dB);refine wO ?_;change dG _ _ _ _ _;refine ae (xa 7 (V (af fU E) (V (aj oF E E) (V (ak NQ (.cons E .nil) E (oP l hb)) (V (au E E) (V (au E E) (V aA (V aA (xc (ah ?_))))))))));refine⟨_,gz,?_⟩;rfl
def zV(S:List Int)(k:Nat):List D:=(S.take k).map iv++List.replicate (64 - k) (iv 0)
theorem Cc{S:List Int}{k:Nat}(hS:S.length=64)(hk:k<=64):(zV S k).length=64:=by unfold zV;rw[XI,Xo,Ya,List.length_replicate];omega
theorem LK{S:List Int}{k:Nat}{x:Int}(hS:S.length=64)(h:S[k]?=some x):dL (zV S k) (0+(k:Int).toNat*1) [iv x]=zV S (k+1):=by
 have⟨bH,hx⟩:=Xt.1 h;have hl:((S.take k).map iv).length=k:=by rw[Xo,Ya];omega
 rw[ZO,XK,YA,ye (by rw[Cc hS (by omega)];omega)];unfold zV;rw[List.set_append_right _ _ (by omega),hl,Nat.sub_self,show 64 - k=(64 - (k+1))+1 by omega,List.replicate_succ,List.set_cons_zero,Yh bH,hx,Yw,Yr];rfl
theorem LL{S:List Int}(hS:S.length=64):zV S 64=S.map iv:=by
 unfold zV;rw[Yo (by omega)];simp
theorem ak7{l:List Nat}{k:Nat}{x:Nat}(h:l[k]?=some x):(l.map fd)[0+(k:Int).toNat*1]?=some (fd x):=by rw[ZO,XK,YA,XF,h];rfl
theorem sa{l:List Nat}(h:l.length=64):((l.map vI).map iv).length=64:=by rw[Xo,Xo];exact h
theorem aa4{l:List Nat}{k x:Nat}(h:l[k]?=some x):(l.map vI)[k]?=some (vI x):=by rw[XF,h];rfl
theorem R6{l:List Nat}(h:ud l):∀v∈l.map vI,-2047<=v/\v<=2047:=by
 intro v hv;obtain⟨b,hb,rfl⟩:=X6.1 hv;exact⟨(h b hb).lo,(h b hb).hi⟩
theorem Cj(l:List Nat)(hS:l.length=64)(hb:ud l):PC qP 118 [.pt (l.map fd) 0] (.agg ((l.map vI).map iv)):=by
 have hS2:(l.map vI).length=64:=by rw[Xo];exact hS
 refine av (qA func118 E) E ntmps118 results118 λw0=>ae (xa 0 (aw (bL RY E E E (ai (xq (ae (xa 2 (V (aq (x:=.d (.pt _ _)) E) (V aF (xc (az (bG [3,4,6,7,8,9,10,11,12,13,14,15,16] [2] (α:=Nat) (λk=>[(6,T.i (k:Int))]) (λk=>[(2,.box (zV (l.map vI) k))]) (λk=>k<=64) (λk=>64 - k) 0 (XC _) ?_ ?_))))))))))))
 ·exact xh (ms:=[2]) (by repeat (exact Out.refl _)) ⟨(by rfl),trivial⟩ ⟨(by rfl),trivial⟩
 ·intro k hk;refine ae (xa 1 (V (cM E E) (rs (ao E (λbV=>?_) (λbV=>?_)))))
  ·(try simp only[nb,Xv]at bV);have bH:k<l.length:=by omega
   obtain⟨x,hx⟩:∃x,l[k]?=some x:=⟨_,Xp bH⟩;have hx1:=hb x (XA hx);have U8:=ak7 hx;have dU:=LK hS2 (aa4 hx);have hol:=Cc (k:=k) hS2 (by omega);refine wO ?_;change dG _ _ _ _ _;refine ae (az (ae (xa 6 (V aF (V (bZ E) (V (cj OB E E (by omega) (by omega)) (V (aj xV E U8) (V aA (V aA (rn ?_))))))))));change dG _ _ _ _ _;refine xa 4 (V aF (V aF (V (iH ik vU E hx1.int) (V (bA TC E E (by omega) (by omega)) (aw (ay (cs':=zV (l.map vI) (k+1)) mF E E E' E E (by rw[hol];omega) dU (ai ?_)))))));change dG _ _ _ _ _;refine xa 2 ?_;refine V (lE E E xi) (V aF (rn ?_));refine⟨k+1,by omega,by omega,?_⟩;exact xh (ms:=[2]) (by repeat (first|exact Out.head E E|(refine Out.put ?_ E)|(refine Out.site ?_ E))) ⟨(by rfl),trivial⟩ ⟨(by rfl),trivial⟩
  ·(try simp only[nb,Xv]at bV);have aA7:k=64:=by omega
   subst aA7;rw[LL hS2];refine bJ ?_;change dG _ _ _ _ _;refine ae (xa 1 ?_);refine V (aX (ds:=(l.map vI).map iv) GV E E (by rw[Z1];exact Yo (by rw[sa hS];exact Xw _)) (sa hS)) (aw (ay (cs':=(l.map vI).map iv) GV E E H' (sa hS) E (by rw[sa hS];decide) (yf (by rfl)) (ai ?_)));change dG _ _ _ _ _;refine ah ?_;refine⟨_,(.cons (.dn E E GV (sa hS)) .nil),?_⟩;rfl
def xl(S:List Int)(k:Nat):Int:=S.getD k 0
def Bc(S:List Int)(k:Nat):Int:=xl S k - xl S (k+2)
def Bg(S:List Int)(k:Nat):Int:=xl S (k+1) - xl S (k+3)
theorem at6{S:List Int}(hS:S.length=64){k:Nat}(hk:k<61):((((S.map iv).take (k+4)).drop k).map λd=>[d])=[iv (xl S k),iv (xl S (k+1)),iv (xl S (k+2)),iv (xl S (k+3))].map λd=>[d]:=by
 congr 1
 have hg:∀i,i<64->S[i]?=some (xl S i):=λi hi=>by
  unfold xl;rw[X1,Xp (by omega)];rfl
 apply List.ext_getElem?;intro i;rw[Yk,Yq,XF]
 match i with
 | 0=>rw[Xu (by omega),hg _ (by omega)];rfl
 | 1=>rw[Xu (by omega),hg _ (by omega)];rfl
 | 2=>rw[Xu (by omega),hg _ (by omega)];rfl
 | 3=>rw[Xu (by omega),hg _ (by omega)];rfl
 | i+4=>rw[Xr (by omega)];rfl
theorem mQ{S:List Int}(hb:∀v∈S,-2047<=v/\v<=2047)(k:Nat) : -2047<=xl S k/\xl S k<=2047:=by
 unfold xl;rw[X1]
 cases h:S[k]? with
 | none=>exact⟨by decide,by decide⟩
 | some v=>exact hb v (XA h)
theorem Kw(S:List Int)(hS:S.length=64)(hb:∀v∈S,-2047<=v/\v<=2047)(k:Nat)(hk:k<61):PC qP 119 [.pt (S.map iv) 0,.v (.int .i64 ((k:Int)))] (.da [.v (.int .i64 (Bc S k)),.v (.int .i64 (Bg S k))]):=by
 have b0:=mQ hb k;have b1:=mQ hb (k+1);have b2:=mQ hb (k+2);have b3:=mQ hb (k+3);have WU:(S.map iv).length=64:=by rw[Xo];exact hS
 refine aY (qA func119 E) E ntmps119 results119 λw0 bQ cH iK=>ae (xa 2 (V aA (V aA (rs (xa 8 (V (aq (x:=.d (.pt _ _)) E) (V (bZ E) (V aF (V aF ?_)))))))));refine V (lE E E xi) (V (IY (lo:=k) (hi:=k+4) (es:=[iv (xl S k),iv (xl S (k+1)),iv (xl S (k+2)),iv (xl S (k+3))].map λd=>[d]) TC E WU (by decide) E E (by omega) (by omega) (by omega) (at6 hS hk)) (V (Hh (cs:=[iv (xl S k),iv (xl S (k+1)),iv (xl S (k+2)),iv (xl S (k+3))]) D4 E E E (by decide)) (V (ax (ds:=[_,_,_,_]) Sa E E E) (aw (bL Xg E E E (ay Sa E E H' E E (by decide) E (ai (xq (xa 12 (V (bA D4 E E (by omega) (by omega)) (V (aQ mF E E E) (V (bA D4 E E (by omega) (by omega)) (V (aQ mF E E E) ?_)))))))))))));refine V (dk E E xi) (V (bA D4 E E (by omega) (by omega)) (V (aQ mF E E E) (V (bA D4 E E (by omega) (by omega)) (V (aQ mF E E E) ?_))));refine V (dk E E xi) (V aA (V aA (xc (ah ?_))));refine⟨_,gz,?_⟩;rfl
theorem Ud{S:List Int}(hb:∀v∈S,-2047<=v/\v<=2047)(k:Nat):(-4094<=Bc S k/\Bc S k<=4094)/\(-4094<=Bg S k/\Bg S k<=4094):=by
 have b0:=mQ hb k;have b1:=mQ hb (k+1);have b2:=mQ hb (k+2);have b3:=mQ hb (k+3);unfold Bc Bg;omega
def cx(re im:Int):D:=.v (.complex .f32 (FloatKind.f32.nearest re) (FloatKind.f32.nearest im))
def D7(S:List Int):List D:=(List.range 61).map λk=>cx (Bc S k) (Bg S k)
def zW(S:List Int)(k:Nat):List D:=((List.range k).map λk=>cx (Bc S k) (Bg S k))++List.replicate (61 - k) (.v (.complex .f32 0 0))
theorem Cd{S:List Int}{k:Nat}(hk:k<=61):(zW S k).length=61:=by unfold zW;rw[XI,Xo,Yx,List.length_replicate];omega
theorem LM{S:List Int}{k:Nat}(hk:k<61):dL (zW S k) (0+(k:Int).toNat*1) [cx (Bc S k) (Bg S k)]=zW S (k+1):=by
 have hl:((List.range k).map λk=>cx (Bc S k) (Bg S k)).length=k:=by rw[Xo,Yx]
 rw[ZO,XK,YA,ye (by rw[Cd (by omega)];omega)];unfold zW;rw[List.set_append_right _ _ (by omega),hl,Nat.sub_self,show 61 - k=(61 - (k+1))+1 by omega,List.replicate_succ,List.set_cons_zero,ZA,Yw,Yr];rfl
theorem LN(S:List Int):zW S 61=D7 S:=by unfold zW D7;simp
theorem oC(S:List Int):(D7 S).length=61:=by unfold D7;rw[Xo,Yx]
theorem Gv(l:List Nat)(hS:l.length=64)(hb:ud l):PC qP 73 [.agg (l.map fd)] (.da [.agg (D7 (l.map vI)),.v (.int .i64 (0))]):=by
 have WU:=sa hS;have hS2:(l.map vI).length=64:=by rw[Xo];exact hS
 have Rc:=R6 hb;refine aY (qA func73 E) E ntmps73 results73 λw0 bQ cH iK=>ae (xa 1 (V (aP E H') (aw (bL Ki E E E (aN E aA (ai (xq (xa 0 (aw (bL Ki E E E (ai (xq (ae (xa 3 ?_))))))))))))));refine V (ax (ds:=l.map fd) KD E (by rw[Z1];exact Yo (by show (l.map fd).length<=64;rw[Xo];omega)) (by rw[Xo];exact hS)) (V (ak aq6 (.cons E .nil) E (EJ _ (by assumption) (by assumption))) (V aA (rs (xa 2 (V aF (V (bS E E) (xc (ao E (λdB=>?_) (λdB=>?_)))))))))
 ·simp at dB
 ·(try simp only[nb,Xv]at dB);refine wO ?_;change dG _ _ _ _ _;refine ae (xa 1 (V (ak aq5 (.cons E .nil) E (Cj l hS hb)) (aw (dF RY E GV E E H' WU E (ai (xq (ae (xa 1 (V aF (xc (az (bG [7,8,9,17,18,19,20,21,22,23,24,25,26,27,28,29,30,31,32] [4] (α:=Nat) (λk=>[(17,T.i (k:Int))]) (λk=>[(4,.box (zW (l.map vI) k))]) (λk=>k<=61) (λk=>61 - k) 0 (XC _) ?_ ?_))))))))))))
  ·exact xh (ms:=[4]) (by repeat (exact Out.refl _)) ⟨(by rfl),trivial⟩ ⟨(by rfl),trivial⟩
  ·intro k hk;refine ae (xa 1 (V (cM E E) (rs (ao E (λmo=>?_) (λmo=>?_)))))
   ·(try simp only[nb,Xv]at mo);have bH:k<61:=by omega
    have dU:=LM (S:=l.map vI) bH;have hol:=Cd (S:=l.map vI) (k:=k) (by omega);refine wO ?_;change dG _ _ _ _ _;refine ae (az (ae (xa 2 (V aF (V aA (rs (xa 7 (V aF (V (ak aq4 (.cons E (.cons E .nil)) E (Kw (l.map vI) hS2 Rc k bH)) (V (aq (x:=.d (.da _)) E) (V (au E E) (V (au E E) (V aA (V aA (rn ?_)))))))))))))));change dG _ _ _ _ _;refine xa 7 (V aF (V aF (V (lW vU ik E) (V aF (V (lW vU ik E) (V (yp E E) (V (bA as5 E E (by omega) (by omega)) (aw (ay (cs':=zW (l.map vI) (k+1)) KE E E E' E E (by rw[hol];omega) dU (ai ?_))))))))));change dG _ _ _ _ _;refine xa 2 ?_;refine V (lE E E xi) (V aF (rn ?_));refine⟨k+1,by omega,by omega,?_⟩;exact xh (ms:=[4]) (by repeat (first|exact Out.head E E|(refine Out.put ?_ E)|(refine Out.site ?_ E))) ⟨(by rfl),trivial⟩ ⟨(by rfl),trivial⟩
   ·(try simp only[nb,Xv]at mo);have aA8:k=61:=by omega
    subst aA8;rw[LN];refine bJ ?_;change dG _ _ _ _ _;refine ae (xa 1 ?_);refine V (aX (ds:=D7 (l.map vI)) BE E E (by rw[Z1];exact Yo (by rw[oC];exact Xw _)) (oC _)) (aw (ay (cs':=D7 (l.map vI)) BE E E H' (oC _) E (Nat.le_of_ble_eq_true E) (yf (oC _)) (aN E aA (ai ?_))));change dG _ _ _ _ _;refine ah ?_;refine⟨_,(.cons (.dn E E BE (oC _)) cS),?_⟩;rfl
theorem dA(n lo hi:Int):PC qP 68 [.v (.int .i64 (n)),.v (.int .i64 (lo)),.v (.int .i64 (hi))] (.v (.bool (dP lo n hi))):=by
 refine av (qA func68 E) E ntmps68 results68 λw0=>ae (xa 1 (V aA (rs (xa 9 (V aF (V aF (V (iG E E) (V aF (aE E E (λhG=>aF) (aE E E (λhG=>aF) (aE E E (λhG=>(iG E E)) (aT E E E E E E ?_))))))))))));refine V aA (xc (ah ?_));refine⟨_,cS,?_⟩;simp only[gX];rfl
theorem C8(n m:Int)(h1:0<=m)(h2:m<=1000000000000):PC qP 133 [.v (.int .i64 (n)),.v (.int .i64 (m))] (.v (.bool (dP (-m) n m))):=by
 refine av (qA func133 E) E ntmps133 results133 λw0=>ae (xa 1 (V aA (rs (xa 6 (V aF (V aF ?_))))));refine V (tw E xi) (V aF (V (ak pO (.cons E (.cons E (.cons E .nil))) E (dA _ _ _)) (V aA (xc (ah ?_)))));refine⟨_,cS,?_⟩;rfl
theorem Nw(l:List Int):PC qP 136 [.sl 1 (l.map iC)] (.v (.int .i64 (firstE l))):=by
 refine av (qA func136 E) E ntmps136 results136 λw0=>ae (xa 1 (V aA (rs (ae (xa 3 (V (aq (x:=.d (.sl _ _)) E) (V (cd FK E (by exact aV _ _)) (V aF (xc (bm (t:=5) E (λQ1=>?_)))))))))));(try simp only[Xo]at Q1);refine az (bG [2,4,7,8,9,10,11,12,13,14] [] (α:=Nat) (λk=>[(7,T.i (k:Int))]) (λk=>[]) (λk=>k<=l.length/\firstE l=firstE (l.drop k)) (λk=>l.length - k) 0 ⟨XC _,rfl⟩ ?_ ?_)
 ·exact xh (ms:=[]) (by repeat (exact Out.refl _)) ⟨(by rfl),trivial⟩ trivial
 ·intro k ⟨hk,hf⟩;refine ae (xa 1 (V (cM E E) (rs (ao E (λbV=>?_) (λbV=>?_)))))
  ·(try simp only[nb,Xv]at bV);have bH:k<l.length:=by omega
   have hx:=Xp bH;have J:firstE (l.drop k)=if l[k]=0 then firstE (l.drop (k+1)) else l[k]:=by rw[Yf bH];rfl
   generalize l[k]=x at *;refine wO ?_;change dG _ _ _ _ _;refine ae (az (ae (xa 3 (V (aJ oT E E (by omega) (cm (by omega) hx)) (V (aj TY E E) (V aA (rs (xa 2 (V aF (V (bS E E) (xc (ao E (λeJ=>?_) (λeJ=>?_)))))))))))))
   ·(try simp only[nb,Xv]at eJ);refine ae (xa 2 (V aF (V aA (xc (ah ?_)))));refine⟨_,cS,?_⟩;rw[hf,J,Xr eJ];rfl
   ·(try simp only[nb,Xv]at eJ);refine wO ?_;change dG _ _ _ _ _;refine xa 2 ?_;refine V (lE E E xi) (V aF (rn ?_));refine⟨k+1,⟨by omega,by rw[hf,J,Xu eJ]⟩,by omega,?_⟩;exact xh (ms:=[]) (by repeat (first|exact Out.head E E|(refine Out.put ?_ E))) ⟨(by rfl),trivial⟩ trivial
  ·(try simp only[nb,Xv]at bV);refine bJ ?_;change dG _ _ _ _ _;refine ae (xa 1 (V aA (xc (ah ?_))));refine⟨_,cS,?_⟩;rw[hf,Yu (by omega)];rfl
theorem n9(b:Bool)(e:Int):PC qP 102 [.v (.bool (b)),.v (.int .i64 (e))] (.v (.int .i64 (c9 b e))):=by
 refine av (qA func102 E) E ntmps102 results102 λw0=>ae (xa 1 (V aA (rs (ae (xa 1 (V aF (xc (ao E (λbW=>?_) (λbW=>?_)))))))))
 ·(try simp only[nb,Xv]at bW);have hz:c9 b e=e:=by unfold c9;rw[Xu bW]
  refine ae (xa 2 (V aF (V aA (xc (ah ?_)))));refine⟨_,cS,?_⟩;rw[hz];rfl
 ·(try simp only[nb,Xv]at bW);have hz:c9 b e=0:=by unfold c9;rw[Xr (by simpa using bW)]
  refine wO ?_;change dG _ _ _ _ _;refine ae (xa 1 (V aA (xc (ah ?_))));refine⟨_,cS,?_⟩;rw[hz];rfl
structure iZ where
 fx:Int
 fz:Int
 co:Int
 ro:Int
 st:Int
def qO(g:iZ):List D:=[.v (.int .i64 g.fx),.v (.int .i64 g.fz),.v (.int .i64 g.co),.v (.int .i64 g.ro),.v (.int .i64 g.st)]
def gZ(g:iZ)(c:Int):Int × Int:=(g.fx+c.tmod g.co*g.st,g.fz+c.tdiv g.co*g.st)
structure kG(g:iZ):Prop where
 x1 : -100000<=g.fx
 x2:g.fx<=100000
 z1 : -100000<=g.fz
 z2:g.fz<=100000
 c1:1<=g.co
 c2:g.co<=40
 r1:1<=g.ro
 r2:g.ro<=40
 s1:1<=g.st
 s2:g.st<=10000
def qQ(g:iZ):Bool:=dP (-100000) g.fx 100000&&dP (-100000) g.fz 100000&&dP 1 g.co 40&&dP 1 g.ro 40&&dP 1 g.st 10000
theorem cY{l h a:Int}:dP l a h=true↔l<=a/\a<=h:=by unfold dP;simp
theorem AH{g:iZ}(h:qQ g=true):kG g:=by
 unfold qQ at h;simp only[Xs,cY]at h;have⟨⟨⟨⟨⟨a1,a2⟩,b1,b2⟩,c1,c2⟩,d1,d2⟩,e1,e2⟩:=h;exact⟨a1,a2,b1,b2,c1,c2,d1,d2,e1,e2⟩
theorem dg{g:iZ}(h:kG g):1<=g.co*g.ro/\g.co*g.ro<=1600:=by
 have⟨_,_,_,_,c1,c2,r1,r2,_,_⟩:=h;have h1:=lX (a:=g.co) (b:=g.ro) (A:=40) (B:=40) (by omega) (by omega) (by omega) (by omega);have h2:=Int.mul_le_mul c1 r1 (by omega) (by omega);omega
theorem mG{c b:Int}(hc:0<=c)(hb:1<=b):0<=c.tmod b/\c.tmod b<b:=⟨Int.tmod_nonneg _ hc,Int.tmod_lt_of_pos _ (by omega)⟩
theorem mH{c b:Int}(hc:0<=c)(hb:1<=b):0<=c.tdiv b/\c.tdiv b<=c:=by
 rw[Y2 hc];exact⟨Int.ediv_nonneg hc (by omega),Int.ediv_le_self _ hc⟩
theorem GZ{g:iZ}(h:kG g){c:Int}(h1:0<=c)(h2:c<=10000):(0<=c.tmod g.co*g.st/\c.tmod g.co*g.st<=1000000)/\0<=c.tdiv g.co*g.st/\c.tdiv g.co*g.st<=100000000:=by
 have⟨_,_,_,_,c1,c2,r1,r2,s1,s2⟩:=h;have⟨m1,m2⟩:=mG h1 c1;have⟨d1,d2⟩:=mH h1 c1;have a1:=lX (a:=c.tmod g.co) (b:=g.st) (A:=100) (B:=10000) (by omega) (by omega) (by omega) (by omega);have a2:=lX (a:=c.tdiv g.co) (b:=g.st) (A:=10000) (B:=10000) (by omega) (by omega) (by omega) (by omega);have a3:=X2 m1 (show 0<=g.st by omega);have a4:=X2 d1 (show 0<=g.st by omega);omega
theorem jG(g:iZ)(hg:kG g):PC qP 37 [.agg (qO g)] (.v (.int .i64 (g.co*g.ro))):=by
 have yO:=dg hg;have⟨x1,x2,z1,z2,c1,c2,r1,r2,s1,s2⟩:=hg;refine av (qA func37 E) E ntmps37 results37 λw0=>ae (xa 2 (V (aP E H') (V aA (rs (xa 8 (V (af fT E) (V (af fA E) (V (aj mF E E) (V (af fT E) (V (af l8 E) (V (aj mF E E) ?_)))))))))));refine V (cZ E E xi) (V aA (xc (ah ?_)));refine⟨_,cS,?_⟩;rfl
theorem qT(g:iZ)(c:Int)(hg:kG g)(h1:0<=c)(h2:c<=10000):PC qP 113 [.agg (qO g),.v (.int .i64 (c))] (.agg (wq (gZ g c))):=by
 have tZ:=GZ hg h1 h2;have⟨x1,x2,z1,z2,c1,c2,r1,r2,s1,s2⟩:=hg;have⟨m1,m2⟩:=mG h1 c1;have⟨d1,d2⟩:=mH h1 c1;have⟨⟨a1,a2⟩,a3,a4⟩:=tZ;refine av (qA func113 E) E ntmps113 results113 λw0=>ae (xa 1 (V (aP E H') (aw (bL r9 E E E (ai (xq (xa 29 (V (af fT E) (V (af gT E) (V (af gU E) (V (aj mF E E) (V aF (V (af fT E) (V (af fA E) (V (aj mF E E) (V (yo E E (by omega)) (V (af fT E) (V (af oi E) (V (aj mF E E) ?_)))))))))))))))))));refine V (cZ E E xi) ?_;refine V (lE E E xi) (V (af fT E) (V (af gT E) (V (af dQ E) (V (aj mF E E) (V aF (V (af fT E) (V (af fA E) (V (aj mF E E) ?_))))))));refine V (B5 E E (by omega) xi) (V (af fT E) (V (af oi E) (V (aj mF E E) ?_)));refine V (cZ E E xi) ?_;refine V (lE E E xi) ?_;refine V (bz (cs:=[_,_]) LG r9 E (.cons E E' (.cons E E' .nil)) ⟨⟨rfl,by decide⟩,⟨rfl,by decide⟩,trivial⟩ E) (aw (ay fM E E H' E E (by decide) E (ai ?_)));change dG _ _ _ _ _;refine ah ?_;refine⟨_,(.cons (.dn E E fM E) .nil),?_⟩;rfl
def Bn(g:iZ)(c:Int):Int:=c9 (!dP 0 c (g.co*g.ro - 1)) 6
def pW(g:iZ):Int:=if qQ g=true then c9 (decide (100000<(gZ g (g.co*g.ro - 1)).1)||decide (100000<(gZ g (g.co*g.ro - 1)).2)) 8 else 2
theorem gW{g:iZ}(h:pW g=0):kG g/\(gZ g (g.co*g.ro - 1)).1<=100000/\(gZ g (g.co*g.ro - 1)).2<=100000:=by
 unfold pW at h;by_cases h1:qQ g=true
 ·rw[Xu h1,fL (by decide)]at h
  simp only[YR,YP]at h;exact⟨AH h1,by omega,by omega⟩
 ·rw[Xr h1]at h;cases h
theorem F2(g:iZ)(c:Int)(hg:kG g):PC qP 137 [.agg (qO g),.v (.int .i64 (c))] (.v (.int .i64 (Bn g c))):=by
 have yO:=dg hg;refine av (qA func137 E) E ntmps137 results137 λw0=>ae (xa 2 (V (aP E H') (V aA (rs (xa 8 (V aF (V (ax (ds:=[_,_,_,_,_]) oE E E E) (V (ak F4 (.cons E .nil) E (jG _ (by assumption))) ?_))))))));refine V (dk E E xi) (V (ak pO (.cons E (.cons E (.cons E .nil))) E (dA _ _ _)) (V (bX E) (V (ak yZ (.cons E (.cons E .nil)) E (n9 _ _)) (V aA (xc (ah ?_))))));refine⟨_,cS,?_⟩;rfl
theorem ma(g:iZ):PC qP 104 [.agg (qO g)] (.v (.int .i64 (pW g))):=by
 refine aY (qA func104 E) E ntmps104 results104 λw0 bQ cH iK=>ae (xa 2 (V (aP E H') (V aA (rs (ae (xa 30 (V (af gT E) (V (af gU E) (V (aj mF E E) (V (ak Tr (.cons E (.cons E .nil)) E (C8 _ _ (by omega) (by omega))) (V (bX E) (V aF (aE E E (λhG=>(af gT E)) (aE E E (λhG=>(af dQ E)) (aE E E (λhG=>(aj mF E E)) (aE E E (λhG=>(ak Tr (.cons E (.cons E .nil)) E (C8 _ _ (by omega) (by omega)))) (aE E E (λhG=>(bX E)) (aT E E E E E E ?_))))))))))))))))));refine V aF (aE E E (λhG=>(af fA E)) (aE E E (λhG=>(aj mF E E)) (aE E E (λhG=>(ak pO (.cons E (.cons E (.cons E .nil))) E (dA _ _ _))) (aE E E (λhG=>(bX E)) (aT E E E E E E ?_)))));refine V aF (aE E E (λhG=>(af l8 E)) (aE E E (λhG=>(aj mF E E)) (aE E E (λhG=>(ak pO (.cons E (.cons E (.cons E .nil))) E (dA _ _ _))) (aE E E (λhG=>(bX E)) (aT E E E E E E ?_)))));refine V aF (aE E E (λhG=>(af oi E)) (aE E E (λhG=>(aj mF E E)) (aE E E (λhG=>(ak pO (.cons E (.cons E (.cons E .nil))) E (dA _ _ _))) (aE E E (λhG=>(bX E)) (aT E E E E E E ?_)))));refine xc (ao E (λbW=>?_) (λbW=>?_))
 ·(try simp only[nb,Xv]at bW)
  have hb:qQ g=false:=by
   cases q:qQ g with
   | false=>rfl
   | true=>unfold qQ at q;simp_all
  have hz:pW g=2:=by unfold pW;rw[hb];rfl
  refine ae (xa 1 (V aA (xc (ah ?_))));refine⟨_,cS,?_⟩;rw[hz];(try simp only[jJ]);rfl
 ·(try simp only[nb,Xv]at bW);have hb:qQ g=true:=by unfold qQ;simp_all
  have hg:=AH hb;have yO:=dg hg;have hz:pW g=c9 (decide (100000<(gZ g (g.co*g.ro - 1)).1)||decide (100000<(gZ g (g.co*g.ro - 1)).2)) 8:=by unfold pW;rw[Xu hb]
  refine wO ?_;change dG _ _ _ _ _;refine ae (xa 2 (V (ax (ds:=[_,_,_,_,_]) mI E E E) ?_));refine V (bz (cs:=[_,_,_,_,_]) LF Bq E (.cons E H' .nil) ⟨⟨rfl,by decide⟩,trivial⟩ E) (aw (dF Bq E oE E E H' E E (ai (xq (kE 5 1 [0,1,2,3,4] mixed (by kernel_rfl) (V (ax (ds:=[_,_,_,_,_]) oE E E E) (V (ax (ds:=[_,_,_,_,_]) oE E E E) (V (ak F4 (.cons E .nil) E (jG _ (by assumption))) ?_))))))));refine V (dk E E xi) (V (ak Du (.cons E (.cons E .nil)) E (qT _ _ (by assumption) (by omega) (by omega))) (aw (aa6 (aF6 r9 E E) ?_ ?_)))
  ·refine gu E E E (JL (ax (ds:=[_,_,_,_,_]) oE E E E)) ?_
   refine gu E E E (JL (ax (ds:=[_,_,_,_,_]) oE E E E)) ?_;refine gu E E E (JL (ak F4 (.cons E .nil) E (jG _ (by assumption)))) ?_
   first|refine gu E E E (JL (dk E E xi)) ?_
   refine gu E E E (JL (ak Du (.cons E (.cons E .nil)) E (qT _ _ (by assumption) (by omega) (by omega)))) ?_;exact wC
  refine qC ?_;refine ay fM E E H' E E (by decide) E (ai (xq (xa 10 (V (aC gU E) (V (aQ mF E E E) (V (gM E E) (V aF (aE E E (λhG=>(aC dQ E)) (aE E E (λhG=>(aQ mF E E E)) (aE E E (λhG=>(gM E E)) (aT E E E E E E ?_)))))))))));refine V (ak yZ (.cons E (.cons E .nil)) E (n9 _ _)) (V aA (xc (ah ?_)));refine⟨_,cS,?_⟩;rw[hz];(try simp only[jJ]);rfl
structure tv where
 ar:rX
 ne:Int
 bf:List Nat
 g:iZ
def Qy(ne:Int)(bf:List Nat):List D:=[.v (.int .i64 ne),.sl 1 (bf.map fC)]
def q8(t:tv):List D:=rN t.ar++Qy t.ne t.bf++qO t.g
structure tn(t:tv):Prop where
 ck:(dJ t.ar).2=0
 n1:1<=t.ne
 n2:t.ne<=16
 nl:(t.bf.length:Int)=t.ne*t.ne*64
 wh:ud t.bf
 el:(t.ar.el.length:Int)=t.ne
 gr:pW t.g=0
 z1:1<=t.g.fz
 z2:t.g.fz<=t.ar.ou.t - 1
 z3:1<=(gZ t.g (t.g.co*t.g.ro - 1)).2
 z4:(gZ t.g (t.g.co*t.g.ro - 1)).2<=t.ar.ou.t - 1
theorem wJ{a:rX}(h:(dJ a).2=0):dJ a=(0,0):=by
 unfold dJ at h ⊢;by_cases h1:a.el.length=0
 ·rw[Xu h1]at h;cases h
 rw[Xr h1]at h ⊢;by_cases h2:16<a.el.length
 ·rw[Xu h2]at h;cases h
 rw[Xr h2]at h ⊢;by_cases h3:(ckEls 0 a.el).2≠0
 ·rw[Xu h3]at h;exact absurd h h3
 rw[Xr h3]at h ⊢;have h4:y6 a=0:=h;rw[h4]
theorem DJ(t:tv)(h:tn t):PC qP 71 [.agg (q8 t)] (.da [.v (.int .i64 (0)),.v (.int .i64 (0))]):=by
 have AE:=wJ h.ck;have⟨Et,_⟩:=iL h.ck;have wY:=h.n1;have Bi:=h.n2;have hnl:=h.nl;have hwh:=h.wh;have Pa:=h.el;have⟨hg,O9,WW⟩:=gW h.gr;have yO:=dg hg;have eA:dP 1 t.g.fz (t.ar.ou.t - 1)=true:=cY.2 ⟨h.z1,h.z2⟩;have eM:dP 1 (gZ t.g (t.g.co*t.g.ro - 1)).2 (t.ar.ou.t - 1)=true:=cY.2 ⟨h.z3,h.z4⟩;have hgr:=h.gr;have ht1:=Et.ou.t1;have ht2:=Et.ou.t2;refine aY (qA func71 E) E ntmps71 results71 λw0 bQ cH iK=>ae (xa 3 (V (aP E H') (V aA (V aA (rs (ae (xa 8 (V (af fc E) (V (ax (ds:=[_,_,_,_,_,_,_,_,_,_,_]) po E E E) (V (ak NR (.cons E .nil) E ((by have h:=mc t.ar;rw[AE]at h;exact h))) (V (aq (x:=.d (.da _)) E) (V (au E E) (V (au E E) (V aA (V aA (rs (xa 2 (V aF (V (bS E E) (xc (ao E (λbV=>?_) (λbV=>?_))))))))))))))))))))))
 ·simp at bV
 ·(try simp only[nb,Xv]at bV);refine wO ?_;change dG _ _ _ _ _;refine ae (ae (xa 8 (V (af iz E) (V (ax (ds:=[_,_]) BD E E E) (V (ak am1 (.cons E .nil) E (xM t.ne t.bf wY Bi hnl hwh)) (V (aq (x:=.d (.da _)) E) (V (au E E) (V (au E E) (V aA (V aA (rs (xa 2 (V aF (V (bS E E) (xc (ao E (λeU=>?_) (λeU=>?_)))))))))))))))))
  ·simp at eU
  ·(try simp only[nb,Xv]at eU);refine wO ?_;change dG _ _ _ _ _;refine ae (ae (xa 8 (V (af fc E) (V (af du E) (V (aj jP E E) (V (cd kA E (by exact aV _ _)) (V (af iz E) (V (af fB E) (V (aj mF E E) (V (bS E E) (xc (bm (t:=32) E (λVa=>?_)))))))))))));(try simp only[Xo]at Va);refine ao E (λmo=>?_) (λmo=>?_)
   ·rw[XW]at mo;exact absurd Pa mo
   ·(try simp only[nb,Xv]at mo);refine wO ?_;change dG _ _ _ _ _;refine ae (ae (xa 4 (V (af fy E) (V (ax (ds:=[_,_,_,_,_]) mI E E E) (V (ak NT (.cons E .nil) E ((by have h:=ma t.g;rw[hgr]at h;exact h))) (V aA (rs (xa 2 (V aF (V (bS E E) (xc (ao E (λlF=>?_) (λlF=>?_)))))))))))))
    ·simp at lF
    ·(try simp only[nb,Xv]at lF);refine wO ?_;change dG _ _ _ _ _;refine ae (xa 3 (V (af fy E) (V (ax (ds:=[_,_,_,_,_]) mI E E E) ?_)));refine V (bz (cs:=[_,_,_,_,_]) LF Bq E (.cons E H' .nil) ⟨⟨rfl,by decide⟩,trivial⟩ E) (aw (dF Bq E oE E E H' E E (ai (xq (xa 5 (V (af fc E) (V (af iA E) (V (af fD E) (V (aj mF E E) (V aA (rs (xa 23 (V (af fy E) (V (af gT E) (V (af dQ E) (V (aj mF E E) (V aF ?_)))))))))))))))));refine V (dk E E xi) (V (ak pO (.cons E (.cons E (.cons E .nil))) E (dA _ _ _)) (V (bX E) (V aF (aE E E (λhG=>(ax (ds:=[_,_,_,_,_]) oE E E E)) (aE E E (λhG=>(ax (ds:=[_,_,_,_,_]) oE E E E)) (aE E E (λhG=>(ak F4 (.cons E .nil) E (jG _ (by assumption)))) ?_))))));refine aE E E (λhG=>(dk E E (lL.mk (by (have iR:=T.cP (a:=_) hG.1;(try simp only[nb,Xv]at iR);omega)) (by (have iR:=T.cP (a:=_) hG.1;(try simp only[nb,Xv]at iR);omega))))) (aE E E (λhG=>(ak Du (.cons E (.cons E .nil)) E (qT _ _ (by assumption) (by omega) (by omega)))) (aE E E (λhG=>(zN F1 mF E E)) (aE E E (λhG=>aF) ?_)));refine aE E E (λhG=>(dk E E (lL.mk (by (have iR:=T.cP (a:=_) hG.1;(try simp only[nb,Xv]at iR);omega)) (by (have iR:=T.cP (a:=_) hG.1;(try simp only[nb,Xv]at iR);omega))))) (aE E E (λhG=>(ak pO (.cons E (.cons E (.cons E .nil))) E (dA _ _ _))) (aE E E (λhG=>(bX E)) (aT E E E E E E ?_)));refine V (ak yZ (.cons E (.cons E .nil)) E (n9 _ _)) (V aA (V aA (xc (ah ?_))));refine⟨_,gz,?_⟩;simp[c9,eA,eM,retD]
def Bo(l:List Nat)(i:Nat):List Nat:=(l.take (64*i+64)).drop (64*i)
def Ew(l:List Nat)(i:Nat):List (List Nat):=(List.range i).map (Bo l)
def al9(b:List Nat):List D:=[.sl 1 (b.map fC)]
theorem rG(l:List Nat)(i:Nat):Ew l (i+1)=Ew l i++[Bo l i]:=by unfold Ew;rw[ZA,Yw];rfl
theorem H9{l:List Nat}{i:Nat}:∀{m:Nat},i<=m->Ew l i <+: Ew l m
 | 0, h => by
   have:i=0:=by omega
   subst this;exact Zn
 | m+1,h=>by
  by_cases e:i=m+1
  ·subst e;exact Zn
  ·rw[rG];exact(H9 (show i<=m by omega)).trans (Y7 _ _)
theorem RG{l:List Nat}{i m:Nat}(h:l.length=64*m)(hi:i<m):(Bo l i).length=64:=by
 unfold Bo;rw[ZW,Ya];omega
theorem RF(l:List Nat)(i:Nat):((l.map fC).take (64*i+64)).drop (64*i)=(Bo l i).map fC:=by unfold Bo;rw[List.map_drop,List.map_take]
theorem Oa{l:List Nat}(h:ud l)(i:Nat):ud (Bo l i):=λb hb=>h b (List.mem_of_mem_take (List.mem_of_mem_drop hb))
theorem Rz(l:List Nat)(m:Nat)(h1:l.length=64*m)(h2:m<=10000):PI qP 116 [] [.pt [.sl 1 (l.map fC)] 0,.pt [.v (.int .i64 (64))] 0] (al9) (Ew l m) true:=by
 refine sC (qA func116 E) E ntmps116 E E λV' c l0 hJ hy AD qL=>?_;refine cG ?_;apply dC hJ
 ·intro c1 bQ cH;refine xa 1 (V aA (rn ?_));exact⟨rfl,rfl⟩
 change iw _ _ _ _ _ _ _;refine fo ?_;refine lD [4,5,6,7,8,9,10,11,12,13,14,15,16,17,18,19,20,21,22,23,24,25,26,27,28,29,30] [] (β:=Nat) (λi=>[(4,T.i ((64*i:Nat):Int))]) (λi=>[]) (λi=>(true,Ew l i)) (λi=>i<=m) (λi=>m - i) 0 (XC _) E (λc1=>?_) ?_
 ·exact xh (ms:=[]) (by repeat (exact Out.refl _)) ⟨(by rfl),trivial⟩ trivial
 ·intro i hi;refine cG ?_;refine cG ?_;apply dC hJ
  ·intro c1 bQ cH;refine xa 4 (V aF (V (aj oF E E) (V (cd qD E (by exact aV _ _)) (V (cM E E) (rn ?_)))));exact⟨rfl,rfl⟩
  change iw _ _ _ _ _ _ _;refine Ap (t:=7) E (λhl7=>?_);(try simp only[Xo]at hl7);refine gR E (λbW=>?_) (λbW=>?_)
  ·(try simp only[nb,Xv]at bW);have bH:i<m:=by omega
   have Au:Ew l i++[Bo l i] <+: Ew l m:=by rw[<-rG];exact H9 bH
   have hmn:min (64:Int) ((List.drop (64*i) (List.take (l.map fC).length l)).length:Int)=64:=by rw[Xo,YL,ZW];omega
   have QV:((64*i:Nat):Int)+64=((64*i+64:Nat):Int):=by omega
   refine gQ ?_;change iw _ _ _ _ _ _ _;refine cG ?_;refine fo ?_;refine cG ?_;apply dC hJ
   ·intro c1 bQ cH;refine xa 7 (V (aj mF E E) (V (aj oF E E) (V aF (V (Qd xf E E E (by rw[Xo];omega) (Xw _) (by exact Jh _ _ _ _)) (V (cd qD E (by exact aV _ _)) (V (tx E E) (V aA (rn ?_))))))));exact⟨rfl,rfl⟩
   change iw _ _ _ _ _ _ _;refine Ap (t:=16) E (λAy=>?_);(try simp only[Xo]at Ay);refine cG ?_;rw[hmn];refine vG ?_;refine en hJ E (λc1 _ _ _ h=>by exact aN E ((aq (x:=.d (.fn _ _)) E)) h) ?_;refine en hJ E (λc1 _ _ _ h=>by exact aN E ((aj oF E E)) h) ?_;refine en hJ E (λc1 _ _ _ h=>by exact aN E (aF) h) ?_;refine en hJ E (λc1 _ _ _ h=>by exact aN E (aF) h) ?_;refine en hJ E (λc1 _ _ _ h=>by exact aN E (aF) h) ?_;refine en hJ E (λc1 _ _ _ h=>by exact aN E ((lE E E xi)) h) ?_;refine en hJ E (λc1 _ _ _ h=>by exact aN E (aF) h) ?_;refine en hJ E (λc1 _ _ _ h=>by exact aN E (aF) h) ?_;refine en hJ E (λc1 _ _ _ h=>by exact aN E ((lE E E xi)) h) ?_;rw[QV];refine en hJ E (λc1 _ _ _ h=>by exact aN E ((IZ (lo:=64*i) (hi:=64*i+64) (es':=(Bo l i).map fC) xf E E E E (by omega) (by rw[Xo];omega) (RF l i))) h) ?_;refine pJ (x:=(Bo l i)) hy AD E (.cons E .nil) Au E (λyb=>?_);refine en hJ E (λc1 _ _ _ h=>by exact aN E ((bX E)) h) ?_;refine qF ?_;change iw _ _ _ _ _ _ _;refine gR E (λeJ=>?_) (λeJ=>?_)
   ·(try simp only[nb,Xv]at eJ);have HO:yb=false:=by cases yb<;>first|rfl|(exfalso;simp_all;done)
    refine Ao ?_;exact⟨.inl E,λh=>by rw[HO]at h;cases h⟩
   ·(try simp only[nb,Xv]at eJ);have HO:yb=true:=by cases yb<;>first|rfl|(exfalso;simp_all;done)
    refine gQ ?_;change iw _ _ _ _ _ _ _;apply dC hJ
    ·intro c1 bQ cH;refine xa 4 (V aF (V (aj mF E E) ?_));refine V (lE E E xi) (V aA (rn ?_));exact⟨rfl,rfl⟩
    refine⟨i+1,by omega,by omega,by rw[HO,rG],λc1=>?_⟩;exact xh (ms:=[]) (by repeat (first|exact Out.head E E|(refine Out.put ?_ E))) ⟨(by rfl),trivial⟩ trivial
  ·(try simp only[nb,Xv]at bW);have qK:i=m:=by omega
   refine m6 ?_;exact⟨.inr E,λ_=>by rw[qK]⟩
theorem Ry(l:List Nat):PC qP 72 [.sl 1 (l.map fC),.v (.int .i64 (64))] (.fn (.func 116) [.pt [.sl 1 (l.map fC)] 0,.pt [.v (.int .i64 (64))] 0]):=by
 refine av (qA func72 E) E ntmps72 results72 λw0=>ae (xa 3 (V (aP E E') (V (aP E E') (V (aG (x:=.d (.v .nilFunc)) E) (rs (ae (xa 2 (V (aj mF E E) (V (cM E E) (xc (ao E (λbW=>?_) (λbW=>?_))))))))))))
 ·cases bW
 ·(try simp only[nb,Xv]at bW);refine wO ?_;change dG _ _ _ _ _;refine ae (xa 2 (V (jw (.cons E (.cons E .nil))) (V (aG (x:=.d (.fn _ _)) E) (xc (ah ?_)))));refine⟨_,cS,?_⟩;rfl
def PD(t:tv):Nat:=(t.ne*t.ne).toNat
def G5(l:List Nat)(i:Nat):List (List D):=(Ew l i).map λb=>D7 (b.map vI)
def My(t:tv):List D:=qO t.g++rN t.ar++[.v (.int .i64 t.ne),.sl 61 (G5 t.bf (PD t))]
theorem KZ(l:List Nat)(i:Nat):G5 l (i+1)=G5 l i++[D7 ((Bo l i).map vI)]:=by unfold G5;rw[rG,Yw];rfl
theorem PT(l:List Nat)(i:Nat):(G5 l i).length=i:=by unfold G5 Ew;rw[Xo,Xo,Yx]
theorem OF(S:List Int):∀d∈D7 S,D.Flat d:=by
 intro d J;unfold D7 at J;obtain⟨k,_,rfl⟩:=X6.1 J;exact .v _
theorem K0(l:List Nat)(i:Nat):∀x∈G5 l i,∀d∈x,D.Flat d:=by
 intro x hx d J;unfold G5 at hx;obtain⟨b,_,rfl⟩:=X6.1 hx;exact OF _ d J
theorem GO{t:tv}(h:tn t):t.bf.length=64*PD t/\PD t<=256/\((PD t:Nat):Int)=t.ne*t.ne:=by
 have h1:=h.n1;have h2:=h.n2;have h3:=h.nl;have hm:=lX (a:=t.ne) (b:=t.ne) (A:=16) (B:=16) (by omega) (by omega) (by omega) (by omega);have hp:=X2 (show 0<=t.ne by omega) (show 0<=t.ne by omega);unfold PD;omega
theorem V6{l:List Nat}{m k:Nat}{y:List Nat}(h:(Ew l m)[k]?=some y):k<m/\y=Bo l k:=by
 unfold Ew at h;rw[XF]at h
 cases Y:(List.range m)[k]? with
 | none=>rw[Y]at h;cases h
 | some j=>
  rw[Y]at h;have⟨h1,h2⟩:=Xt.1 Y;rw[Yx]at h1;rw[List.getElem_range]at h2;subst h2
  cases h
  exact⟨h1,rfl⟩
theorem zX(t:tv)(h:tn t):PC qP 31 [.agg (q8 t)] (.da [.pt (My t) 0,.v (.int .i64 (0))]):=by
 have AE:=wJ h.ck;have⟨Et,_⟩:=iL h.ck;have wY:=h.n1;have Bi:=h.n2;have hnl:=h.nl;have hwh:=h.wh;have Pa:=h.el;have⟨hg,O9,WW⟩:=gW h.gr;have yO:=dg hg;have eA:dP 1 t.g.fz (t.ar.ou.t - 1)=true:=cY.2 ⟨h.z1,h.z2⟩;have eM:dP 1 (gZ t.g (t.g.co*t.g.ro - 1)).2 (t.ar.ou.t - 1)=true:=cY.2 ⟨h.z3,h.z4⟩;have hgr:=h.gr;have ht1:=Et.ou.t1;have ht2:=Et.ou.t2;have⟨J8,Rc,hb3⟩:=GO h;refine aY (qA func31 E) E ntmps31 results31 λw0 bQ cH iK=>ae (xa 3 (V (aP E H') (V aA (V aA (rs (ae (xa 7 (V (ax kJ E E E) (V (ak am3 (.cons E .nil) E (DJ t h)) (V (aq (x:=.d (.da _)) E) (V (au E E) (V (au E E) (V aA (V aA (rs (xa 2 (V aF (V (bS E E) (xc (ao E (λbV=>?_) (λbV=>?_)))))))))))))))))))))
 ·simp at bV
 ·(try simp only[nb,Xv]at bV);refine wO ?_;change dG _ _ _ _ _;refine ae (xa 9 (V (af fy E) (V (ax (ds:=[_,_,_,_,_]) mI E E E) ?_)));refine V (bz (cs:=[_,_,_,_,_]) LF Bq E (.cons E H' .nil) ⟨⟨rfl,by decide⟩,trivial⟩ E) (V (af fc E) (V (ax (ds:=[_,_,_,_,_,_,_,_,_,_,_]) po E E E) (V (af iz E) (V (af fB E) (V (aj mF E E) ?_)))));refine V (bz av5 at4 E (.cons E H' (.cons E H' (.cons E E' .nil))) ⟨⟨rfl,by decide⟩,⟨rfl,by decide⟩,⟨rfl,by decide⟩,trivial⟩ E) (aw (D6 E H' E E E ?_));refine bL Kg E E E (Io (HL (k:=6) (ts:=[_]) E E) ?_);refine tK (z:=.ref _ _) lg E E E E (by decide) E (ai (xq (ae (xa 4 (V (af iz E) (V (af fU E) (V (aj oF E E) (V (ak aD3 (.cons E (.cons E .nil)) E (Ry t.bf)) (xc (az (dG.le (QH 27 47 17 202 61 E E E) ?_)))))))))));refine DV (α:=List Nat) (β:=Nat) (n:=51) (enc:=al9) (items:=Ew t.bf (PD t)) 1000 [(6,.ref 6 0),(31,.d (.fn (.func 116) [.pt [.sl 1 (t.bf.map fC)] 0,.pt [.v (.int .i64 (64))] 0]))] (λx=>[(6,.cn [.ref 27 0]),(27,.cn [.d (.v (.int .i64 (t.g.fx))),.d (.v (.int .i64 (t.g.fz))),.d (.v (.int .i64 (t.g.co))),.d (.v (.int .i64 (t.g.ro))),.d (.v (.int .i64 (t.g.st))),.d (.sl 2 (t.ar.el.map wq)),.d (.v (.int .i64 (t.ar.ou.w))),.d (.v (.int .i64 (t.ar.ou.m))),.d (.v (.int .i64 (t.ar.ou.k))),.d (.v (.int .i64 (t.ar.ou.t))),.d (.v (.int .i64 (t.ar.ba.w))),.d (.v (.int .i64 (t.ar.ba.m))),.d (.v (.int .i64 (t.ar.ba.k))),.d (.v (.int .i64 (t.ar.ba.t))),.d (.v (.int .i64 (t.ar.ts.1))),.d (.v (.int .i64 (t.ar.ts.2))),.d (.v (.int .i64 (t.ne))),.rs 47]),(47,.row 202 61 (G5 t.bf x))]) (λk x=>x=k) (λe x=>False) 0 27 5 (.sl 2 (t.ar.el.map wq)) cH ?_ (.inr ⟨rfl,rfl⟩) aq7 (Rz t.bf (PD t) J8 (by omega)) E (λ_=>rfl) E (λu x=>qV (gS (C7 (by repeat (first|exact HY|refine C6 (by trivial) ?_))) (gS (C7 (by repeat (first|exact HY|refine C6 (by first|exact D.Flat.v _|trivial) ?_))) (gS (K0 _ _) uE)))) (λx=>⟨_,rfl,rfl⟩) (λ_=>rfl) E (λh=>by cases h) ?_ ?_ ?_
  ·exact Ld (λk=>k) _ _ E ⟨(by first|rfl),(by first|rfl),trivial⟩ ⟨(by first|rfl),(by first|rfl),(by first|rfl),trivial⟩ E (λk b h=>by rw[iK k]at h;cases h)
  ·intro u w1 tX k x y hI hy;subst hI;obtain⟨bH,rfl⟩:=V6 hy;have hlk:=RG J8 bH;have UY:=Oa hwh x;have hsl:=PT t.bf x;have U3:G5 t.bf x++[D7 ((Bo t.bf x).map vI)]=G5 t.bf (x+1):=(KZ _ _).symm;refine xa 1 (V (aG (x:=.d (.sl _ _)) E) (rn ?_));refine⟨rfl,λw2 tW=>?_⟩;refine az (ae (xa 7 (V (aq (x:=.d (.sl _ _)) E) (V (Hh (cs:=(Bo t.bf x).map fd) OB E (Ny _).symm (by rw[Xo];exact hlk) (by decide)) ?_))));refine V (ax (ds:=(Bo t.bf x).map fd) KD E (by rw[Z1];exact Yo (by rw[Xo,hlk];exact Xw _)) (by rw[Xo];exact hlk)) (V (ak aD2 (.cons E .nil) E (Gv (Bo t.bf x) hlk UY)) (V (aq (x:=.d (.da _)) E) (V (au E E) (V (au E E) (aw (dF Ki E BE E E H' (oC _) E (aN E aA (ai ?_))))))));change dG _ _ _ _ _;refine kE 7 1 [0] mixed (by kernel_rfl) ?_;refine V (fO (x:=.ref _ _) lg E E E) (V (fO (x:=.ref _ _) lg E E E) (V (mV E) (V (aC AI E) (V (fO (x:=.rs _) TX E E E) (V (ax BE E E E) (V (bu Uh R2 E E (by decide) (.cons E H' .nil) ⟨rfl,rfl,trivial⟩ E (by decide) E) (aw ?_)))))));refine Jj (Oc Uh R2 as1 E (by decide) E E E E (by (try simp only[Xo,XI,XH,XL]);omega) (by (try simp only[Xo,XI,XH,XL]);omega) E) ?_ ?_
   ·refine gu E E E (JL (fO (x:=.ref _ _) lg E E E)) ?_
    exact wC
   refine qC ?_;refine aN E (mV E) (aN E (aC AI E) (tK (z:=.rs _) TX E E E E (by exact Nat.le_of_ble_eq_true E) E (ai (.inl ⟨rfl,x+1,rfl,?_⟩))));exact jA [] _ tW E ⟨(by rfl),(by rfl),(by (show aH.row _ _ _=aH.row _ _ _;rw[<-U3];rfl)),trivial⟩ E
  ·intro x hI;have W4:x=PD t:=by rw[hI];unfold Ew;rw[Xo,Yx]
   subst W4;change dG _ _ _ _ _;refine ae (dG.le (tB 27 47 17 E E E E bQ) ?_);refine dG.le (HM 27 (My t) E E (by intro j d h;match j,h with|0,h|1,h|2,h|3,h|4,h|5,h|6,h|7,h|8,h|9,h|10,h|11,h|12,h|13,h|14,h|15,h|16,h|17,h=>cases h;rfl)) ?_;refine xa 3 (V (fO (x:=.ref _ _) lg E E E) (V (aG (x:=.ref _ _) E) (V aA (rn ?_))));change dG _ _ _ _ _;refine dG.le (nZ 27 2 0 (cs:=My t) E E E E bQ) ?_;refine ah ?_;refine⟨_,gz,?_⟩;rfl
  ·exact λe x h=>h.elim
def Qr(t:tv)(c:Int)(pr:Int × Int):Int:=firstE [Bn t.g c,c9 (!dP 0 pr.1 (t.ne - 1) || !dP 0 pr.2 (t.ne - 1)) 6]
theorem I9{t:tv}{c:Int}(h:1<=t.ne):Qr t c (0,0)=Bn t.g c:=by
 have e:dP 0 (0:Int) (t.ne - 1)=true:=cY.2 ⟨by omega,by omega⟩;unfold Qr;rw[e];show (if Bn t.g c=0 then firstE [0] else Bn t.g c)=_
 split
 ·rename_i q;rw[q];rfl
 ·rfl
theorem aO0{g:iZ}{c:Int}(h:Bn g c=0):0<=c/\c<=g.co*g.ro - 1:=by
 unfold Bn at h;rw[fL (by decide),Y6]at h;exact cY.1 h
theorem G3{g:iZ}(hg:kG g):gZ g (g.co*g.ro - 1)=(g.fx+(g.co - 1)*g.st,g.fz+(g.ro - 1)*g.st):=by
 have hc:=hg.c1;have Y:=hg.r1;have yO:=(dg hg).1;have e:g.co*g.ro - 1=(g.co - 1)+(g.ro - 1)*g.co:=by grind
 unfold gZ;rw[Int.tmod_eq_emod_of_nonneg (by omega),Y2 (by omega),e,Int.add_mul_emod_self_right,Int.emod_eq_of_lt (by omega) (by omega),Int.add_mul_ediv_right _ _ (by omega),Int.ediv_eq_zero_of_lt (by omega) (by omega),Int.zero_add]
theorem ab9{t:tv}(h:tn t){c:Int}(h1:0<=c)(h2:c<=t.g.co*t.g.ro - 1):(-100000<=(gZ t.g c).1/\(gZ t.g c).1<=100000)/\(-100000<=(gZ t.g c).2/\(gZ t.g c).2<=100000)/\1<=(gZ t.g c).2/\(gZ t.g c).2<=t.ar.ou.t - 1:=by
 have⟨hg,O9,WW⟩:=gW h.gr;have z1:=h.z1;have z4:=h.z4;rw[G3 hg]at O9 WW z4;simp only at O9 WW z4;obtain⟨x1,x2,w1,w2,c1,c2,r1,r2,s1,s2⟩:=hg;have⟨m1,m2⟩:=mG h1 c1;have⟨d1,d2⟩:=mH h1 c1
 have d3:c.tdiv t.g.co<=t.g.ro - 1:=by
  rw[Y2 h1];have:=Int.ediv_lt_of_lt_mul (a:=c) (b:=t.g.ro) (c:=t.g.co) (by omega) (by rw[Int.mul_comm];omega);omega
 have a1:=Y8 (show c.tmod t.g.co<=t.g.co - 1 by omega) (show 0<=t.g.st by omega);have a2:=Y8 d3 (show 0<=t.g.st by omega);have a3:=X2 m1 (show 0<=t.g.st by omega);have a4:=X2 d1 (show 0<=t.g.st by omega);unfold gZ;simp only;omega
theorem Hs{t:tv}(h:tn t){c:Int}{pr:Int × Int}(hc:Bn t.g c=0)(hp:(0<=pr.1/\pr.1<t.ne)/\0<=pr.2/\pr.2<t.ne):Ch t.ar (gZ t.g c) pr=0:=by
 have⟨c1,c2⟩:=aO0 hc;have⟨i1,i2,i3,i4⟩:=ab9 h c1 c2;have Pa:=h.el;unfold Ch;rw[Xr (λq=>q h.ck)];refine fe.2 ?_;simp only[Xy,XG,Yn,ZE,forall_eq];refine⟨nP.2 ⟨i1,i2⟩,(gE (by decide)).2 (cY.2 ⟨i3,i4⟩),?_⟩;unfold vk;rw[Pa,fL (by decide),cY.2 ⟨hp.1.1,by omega⟩,cY.2 ⟨hp.2.1,by omega⟩];rfl
theorem Fq(t:tv)(c:Int)(pr:Int × Int)(h:tn t):PC qP 108 [.agg (q8 t),.v (.int .i64 (c)),.agg (wq pr)] (.da [.pt (My t) 0,.v (.int .i64 (Qr t c pr))]):=by
 have wY:=h.n1;have Bi:=h.n2;have⟨hg,_,_⟩:=gW h.gr;refine aY (qA func108 E) E ntmps108 results108 λw0 bQ cH iK=>ae (xa 4 (V (aP E H') (V (aP E H') (V aA (V aA (rs (xa 7 (V (ax kJ E E E) (V (ak JD (.cons E .nil) E (zX t h)) (V (aq (x:=.d (.da _)) E) (V (au E E) (V (au E E) (V (aG (x:=.d (.pt _ _)) E) (V aA (rs (ae (xa 2 (V aF (V (bS E E) (xc (ao E (λbV=>?_) (λbV=>?_))))))))))))))))))))))
 ·simp at bV
 ·(try simp only[nb,Xv]at bV);refine wO ?_;change dG _ _ _ _ _;refine ae (xa 6 (V (aq (x:=.d (.pt _ _)) E) (V (bZ E) (V (af oh E) (V (aj mF E E) ?_)))));refine V (dk E E xi) (V aA (rs (xa 24 (V (aq (x:=.d (.pt _ _)) E) (V (aq (x:=.d (.pt _ _)) E) (V (bZ E) (V (af qZ E) (V (ax (ds:=[_,_,_,_,_]) oE E E E) (V aF (V (ak ap7 (.cons E (.cons E .nil)) E (F2 t.g c hg)) (V (cj kF E E (by omega) (by omega)) (V (aj mF E E) (V aF (V (ak pO (.cons E (.cons E (.cons E .nil))) E (dA _ _ _)) (V (bX E) (V aF ?_))))))))))))))));refine aE E E (λhG=>(cj kF E E (by (have iR:=T.cP (a:=_) hG.1;(try simp only[nb,Xv]at iR);omega)) (by (have iR:=T.cP (a:=_) hG.1;(try simp only[nb,Xv]at iR);omega)))) (aE E E (λhG=>(aj mF E E)) (aE E E (λhG=>aF) (aE E E (λhG=>(ak pO (.cons E (.cons E (.cons E .nil))) E (dA _ _ _))) (aE E E (λhG=>(bX E)) (aT E E E E E E ?_)))));refine V (ak yZ (.cons E (.cons E .nil)) E (n9 _ _)) (V (bu oT EA E E (by decide) (.cons E E' (.cons E E' .nil)) ⟨rfl,rfl,rfl,rfl,trivial⟩ E (by decide) E) (V (ak ap8 (.cons E .nil) E (Nw [_,_])) (V (aG (x:=.d (.pt _ _)) E) (V aA (xc (ah ?_))))));refine⟨_,gz,?_⟩;unfold Qr;(try simp only[jJ]);rfl
theorem vq(t:tv)(c:Int)(h:tn t):PC qP 60 [.agg (q8 t),.v (.int .i64 (c))] (.da [.pt (My t) 0,.v (.int .i64 (Bn t.g c))]):=by
 have hz:=I9 (t:=t) (c:=c) h.n1;refine aY (qA func60 E) E ntmps60 results60 λw0 bQ cH iK=>ae (xa 3 (V (aP E H') (V aA (V aA (rs (xa 8 (V (ax kJ E E E) (V aF (V (qk (cs:=[_,_]) kF Bt E .nil trivial E) ?_)))))))));refine V (ak ar0 (.cons E (.cons E (.cons E .nil))) E ((by have h:=Fq t c (0,0) h;rw[hz]at h;exact h))) (V (au E E) (V (au E E) (V (aG (x:=.d (.pt _ _)) E) (V aA (xc (ah ?_))))));refine⟨_,gz,?_⟩;rfl
def gY(n:Nat):List Int:=(List.range n).map λi:Nat=>(i:Int)
theorem zd(n:Nat):gY (n+1)=gY n++[(n:Int)]:=by unfold gY;rw[ZA,Yw];rfl
theorem rQ(n:Nat):(gY n).length=n:=by unfold gY;rw[Xo,Yx]
theorem Iq{n:Nat}{i:Int}(h:i∈gY n):0<=i/\i<n:=by
 unfold gY at h;obtain⟨k,hk,rfl⟩:=X6.1 h;have:=YJ.1 hk;omega
theorem OH(t:tv)(h1:1<=t.ne)(h2:t.ne<=16):PC qP 44 [.pt (My t) 0] (.sl 1 ((gY t.ne.toNat).map iC)):=by
 refine aY (qA func44 E) E ntmps44 results44 λw0 bQ cH iK=>ae (xa 1 (V (aG (x:=.d (.sl _ _)) E) (rs (xa 1 (V (fP) (rn ?_))))));change dG _ _ _ _ _;refine dG.le (sI (k:=3) (e:=3) (sz:=1) E E) ?_;refine ae (ae (xa 5 (V (aq (x:=.d (.pt _ _)) E) (V (bZ E) (V (af oh E) (V (aj mF E E) (V aF (xc (az (bG [3,4,9,10,11,12,13,14,15,16] [3] (α:=Nat) (λk=>[(9,T.i (k:Int)),(3,.rs 3)]) (λk=>[(3,.row 3 1 ((gY k).map iC))]) (λk=>k<=t.ne.toNat) (λk=>t.ne.toNat - k) 0 (XC _) ?_ ?_))))))))))
 ·exact xh (ms:=[3]) (by repeat (exact Out.refl _)) ⟨(by rfl),(by rfl),trivial⟩ ⟨(by rfl),trivial⟩
 ·intro k hk;have hal:=rQ k;refine ae (xa 1 (V (cM E E) (rs (ao E (λdB=>?_) (λdB=>?_)))))
  ·(try simp only[nb,Xv]at dB);have tY:(gY (k+1)).map iC=(gY k).map iC++[[.v (.int .i64 (k:Int))]]:=by rw[zd,Yw];rfl
   refine wO ?_;change dG _ _ _ _ _;refine ae (az (ae (xa 2 (V aF (V aA (rn ?_))))));change dG _ _ _ _ _;refine xa 3 (V (aq (x:=.rs _) E) (V aF (V (bu gK Br E E (by decide) (.cons E E' .nil) ⟨rfl,rfl,trivial⟩ E (by decide) E) (aw ?_))));refine eX gK Br by3 E (by decide) E E E E (by (try simp only[Xo,XI,XH,XL]);omega) (by (try simp only[Xo,XI,XH,XL]);omega) E E ?_;refine aN E (aG (x:=.rs _) E) (ai ?_);change dG _ _ _ _ _;refine xa 2 ?_;refine V (lE E E xi) (V aF (rn ?_));refine⟨k+1,by omega,by omega,?_⟩;exact xh (ms:=[3]) (by repeat (first|exact Out.head E E|(refine Out.put ?_ E)|(refine Out.site ?_ E)|(refine Out.dE ?_ E))) ⟨(by rfl),(by rfl),trivial⟩ ⟨(by ((show aH.row 3 1 _=aH.row 3 1 _;rw[tY];rfl))),trivial⟩
  ·(try simp only[nb,Xv]at dB);have vP:k=t.ne.toNat:=by omega
   subst vP;refine bJ ?_;change dG _ _ _ _ _;refine ae (xa 2 (V (aq (x:=.rs _) E) (V (aG (x:=.rs _) E) (xc (ah ?_)))));refine⟨_,(.cons (.tmp (by exact .rs E)) .nil),?_⟩;rfl
theorem sG(t:tv)(tm:Int)(h:Ej t.ar)(h1 : -1000000000000<=tm)(h2:tm<=1000000000000):PC qP 114 [.pt (My t) 0,.v (.int .i64 (tm))] (.v (.int .i64 (IU (tm - t.ar.ts.1) t.ar.ts.2))):=by
 have⟨_,_,_,_,_,_,t1,t2,t3,t4⟩:=h;have hq:=GU (a:=2*(tm - t.ar.ts.1)+t.ar.ts.2) (b:=2*t.ar.ts.2) ⟨by omega,by omega⟩ (by omega);have⟨h5,h6⟩:=hq;have hl:=yV (n:=2*(tm - t.ar.ts.1)+t.ar.ts.2) (b:=2*t.ar.ts.2) (by omega);refine av (qA func114 E) E ntmps114 results114 λw0=>ae (xa 1 (V aA (rs (xa 25 (V aF (V (aq (x:=.d (.pt _ _)) E) (V (bZ E) (V (af qY E) (V (af q9 E) (V (af AJ E) (V (aj mF E E) ?_)))))))))));refine V (dk E E xi) ?_;refine V (cZ E E xi) (V (aq (x:=.d (.pt _ _)) E) (V (bZ E) (V (af qY E) (V (af q9 E) (V (af uF E) (V (aj mF E E) ?_))))));refine V (lE E E xi) (V (aq (x:=.d (.pt _ _)) E) (V (bZ E) (V (af qY E) (V (af q9 E) (V (af uF E) (V (aj mF E E) ?_))))));refine V (cZ E E xi) (V aA (V aA (rs (xa 4 (V aF (V aF ?_))))));refine V (B5 E E (by omega) xi) (V aA (rs (ae (xa 4 (V aF (V aF (V (yo E E (by omega)) (V (cM E E) (xc (ao E (λdB=>?_) (λdB=>?_)))))))))))
 ·(try simp only[nb,Xv]at dB);rw[Xu dB]at hl;refine xa 3 (V aF ?_);refine V (dk E E xi) (V aA (rs (xa 2 (V aF (V aA (xc (ah ?_)))))));refine⟨_,cS,?_⟩;unfold IU;rw[<-hl];rfl
 ·(try simp only[nb,Xv]at dB);rw[Xr (by omega)]at hl;refine wO ?_;change dG _ _ _ _ _;refine ae (xa 2 (V aF (V aA (xc (ah ?_)))));refine⟨_,cS,?_⟩;unfold IU;rw[<-hl];rfl
theorem L2(t:tv)(c:Int)(pr:Int × Int)(h:tn t)(hc:Bn t.g c=0)(hp:(0<=pr.1/\pr.1<t.ne)/\0<=pr.2/\pr.2<t.ne):PC qP 110 [.pt (My t) 0,.v (.int .i64 (c)),.agg (wq pr)] (.da [.v (.int .i64 (su t.ar (gZ t.g c) pr)),.v (.bool (dP 0 (su t.ar (gZ t.g c) pr) 60))]):=by
 have⟨hg,_,_⟩:=gW h.gr;have⟨c1,c2⟩:=aO0 hc;have yO:=dg hg;have⟨Et,_⟩:=iL h.ck;have ho:=Hs h hc hp;have he:Dx t.ar (gZ t.g c) pr=(Dy t.ar (gZ t.g c) pr,0):=by unfold Dx;rw[Xr (λq=>q ho)]
 have hei:=VR t.ar (gZ t.g c) pr;refine aY (qA func110 E) E ntmps110 results110 λw0 bQ cH iK=>ae (xa 3 (V (aP E H') (V aA (V aA (rs (xa 17 (V (aq (x:=.d (.pt _ _)) E) (V (bZ E) (V (af qY E) (V (ax (ds:=[_,_,_,_,_,_,_,_,_,_,_]) po E E E) (V (aq (x:=.d (.pt _ _)) E) (V (bZ E) (V (af qZ E) (V (ax (ds:=[_,_,_,_,_]) oE E E E) (V aF (V (ak Du (.cons E (.cons E .nil)) E (qT t.g c hg c1 (by omega))) (V (ax (ds:=[_,_]) oQ E E E) ?_)))))))))))))))));refine V (ak ap5 (.cons E (.cons E (.cons E .nil))) E ((by have h:=NU t.ar (gZ t.g c) pr;rw[he]at h;exact h))) (V (aq (x:=.d (.da _)) E) (V (au E E) (V (au E E) (V aA (V aA (rs (xa 4 (V (aq (x:=.d (.pt _ _)) E) (V aF (V (ak NS (.cons E (.cons E .nil)) E (sG t _ Et (by omega) (by omega))) (V aA (rs (xa 5 (V aF (V aF (V (ak pO (.cons E (.cons E (.cons E .nil))) E (dA _ _ _)) (V aA (V aA (xc (ah ?_))))))))))))))))))));refine⟨_,gz,?_⟩;rfl
theorem MG(l:List Int)(n:Int):PC qP 138 [.sl 1 (l.map iC),.v (.int .i64 (n))] (.v (.int .i64 (idxOf (λx=>decide (n=x)) 0 l))):=by
 refine av (qA func138 E) E ntmps138 results138 λw0=>ae (xa 1 (V aA (rs (ae (xa 3 (V (aq (x:=.d (.sl _ _)) E) (V (cd iX E (by exact aV _ _)) (V aF (xc (bm (t:=6) E (λMY=>?_)))))))))));(try simp only[Xo]at MY);refine az (bG [4,5,8,9,10,11,12,13,14,15,16,17,18] [] (α:=Nat) (λk=>[(8,T.i (k:Int))]) (λk=>[]) (λk=>k<=l.length/\idxOf (λx=>decide (n=x)) 0 l=idxOf (λx=>decide (n=x)) k (l.drop k)) (λk=>l.length - k) 0 ⟨XC _,rfl⟩ ?_ ?_)
 ·exact xh (ms:=[]) (by repeat (exact Out.refl _)) ⟨(by rfl),trivial⟩ trivial
 ·intro k ⟨hk,hh⟩;refine ae (xa 1 (V (cM E E) (rs (ao E (λbV=>?_) (λbV=>?_)))))
  ·(try simp only[nb,Xv]at bV);have bH:k<l.length:=by omega
   have hx:=Xp bH;have J:idxOf (λx=>decide (n=x)) k (l.drop k)=if decide (n=l[k])=true then (k:Int) else idxOf (λx=>decide (n=x)) (k+1) (l.drop (k+1)):=by rw[Yf bH];rfl
   generalize l[k]=x at *;refine wO ?_;change dG _ _ _ _ _;refine ae (az (ae (xa 2 (V aF (V aA (rs (xa 6 (V aF (V (aq (x:=.d (.sl _ _)) E) (V aF (V (aJ gK E E (by omega) (cm (by omega) hx)) (V (aj mF E E) (V (fG E E) (xc (ao E (λeJ=>?_) (λeJ=>?_))))))))))))))))
   ·(try simp only[nb,Xv]at eJ);refine ae (xa 2 (V aF (V aA (xc (ah ?_)))));refine⟨_,cS,?_⟩;rw[hh,J,Xu (by simpa using eJ)];rfl
   ·(try simp only[nb,Xv]at eJ);refine wO ?_;change dG _ _ _ _ _;refine xa 2 ?_;refine V (lE E E xi) (V aF (rn ?_));refine⟨k+1,⟨by omega,by rw[hh,J,Xr (by simpa using eJ)]⟩,by omega,?_⟩;exact xh (ms:=[]) (by repeat (first|exact Out.head E E|(refine Out.put ?_ E))) ⟨(by rfl),trivial⟩ trivial
  ·(try simp only[nb,Xv]at bV);refine bJ ?_;change dG _ _ _ _ _;refine ae (xa 1 (V aA (xc (ah ?_))));refine⟨_,cS,?_⟩;rw[hh,Yu (by omega)];rfl
theorem tI(l:List Int)(n:Int):PC qP 109 [.sl 1 (l.map iC),.v (.int .i64 (n))] (.v (.bool (l.any λx=>decide (n=x)))):=by
 refine av (qA func109 E) E ntmps109 results109 λw0=>ae (xa 1 (V aA (rs (xa 5 (V (aq (x:=.d (.sl _ _)) E) (V aF (V (ak ap6 (.cons E (.cons E .nil)) E (MG _ _)) (V (Hj E E) (V aA (xc (ah ?_)))))))))));refine⟨_,cS,?_⟩;rw[<-yG];rfl
theorem C9(t:tv)(l:List Int):PC qP 64 [.pt (My t) 0,.sl 1 (l.map iC)] (.fn (.func 111) [.pt [.sl 1 (l.map iC)] 0,.pt [.pt (My t) 0] 0]):=by
 refine av (qA func64 E) E ntmps64 results64 λw0=>ae (xa 3 (V (aP E E') (V (aP E E') (V (aG (x:=.d (.v .nilFunc)) E) (rs (xa 2 (V (jw (.cons E (.cons E .nil))) (V (aG (x:=.d (.fn _ _)) E) (xc (ah ?_))))))))));refine⟨_,cS,?_⟩;rfl
def Fh(x:Int)(j:Nat):List (Int × Int):=(List.range j).map λr:Nat=>(x,(r:Int))
def OZ(l:List Int)(n i:Nat):List (Int × Int):=(l.take i).flatMap λx=>Fh x n
def mW(l:List Int)(n:Nat):List (Int × Int):=l.flatMap λx=>Fh x n
theorem vj(x:Int)(j:Nat):Fh x (j+1)=Fh x j++[(x,(j:Int))]:=by unfold Fh;rw[ZA,Yw];rfl
theorem B8{l:List Int}{n i:Nat}{x:Int}(h:l[i]?=some x):OZ l n (i+1)=OZ l n i++Fh x n:=by
 have⟨bH,hx⟩:=Xt.1 h;unfold OZ;rw[Yh bH,hx,List.flatMap_append];simp
theorem Qm(l:List Int)(n:Nat):OZ l n l.length=mW l n:=by unfold OZ mW;rw[YL]
theorem Hl(x:Int){j:Nat}:∀{n:Nat},j<=n->Fh x j <+: Fh x n
 | 0, h => by
   have:j=0:=by omega
   subst this;exact Zn
 | n+1,h=>by
  by_cases e:j=n+1
  ·subst e;exact Zn
  ·rw[vj];exact(Hl x (show j<=n by omega)).trans (Y7 _ _)
theorem Ql{l:List Int}{n i:Nat}{x:Int}(h:l[i]?=some x):OZ l n i++Fh x n <+: mW l n:=by
 have⟨bH,hx⟩:=Xt.1 h;rw[<-B8 h];unfold OZ mW
 conv=>rhs;rw[<-List.take_append_drop (i+1) l]
 rw[List.flatMap_append];exact Y7 _ _
theorem UC{l:List Int}{n i j:Nat}{x:Int}(h:l[i]?=some x)(hj:j<n):OZ l n i++Fh x j++[(x,(j:Int))] <+: mW l n:=by
 rw[Yr,<-vj];have h1:=Hl x (show j+1<=n by omega);have⟨t,ht⟩:=h1;refine List.IsPrefix.trans ?_ (Ql (n:=n) h);rw[<-ht,<-Yr];exact Y7 _ _
theorem Lz{l:List Int}{n:Nat}{y:Int × Int}(h:y∈mW l n):y.1∈l/\0<=y.2/\y.2<n:=by
 unfold mW at h;obtain⟨x,hx,h⟩:=List.mem_flatMap.1 h;unfold Fh at h;obtain⟨r,Y,rfl⟩:=X6.1 h;have:=YJ.1 Y;exact⟨hx,by simp only;omega,by simp only;omega⟩
theorem zS(l:List Int)(n:Nat):(mW l n).length=l.length*n:=by
 unfold mW
 induction l with
 | nil=>simp
 | cons x l ih=>
  rw[List.flatMap_cons,XI,ih,XH,Zf];unfold Fh;rw[Xo,Yx];omega
def jQ(t:tv)(y:Int × Int):List Int:=(Bo t.bf (y.1*t.ne+y.2).toNat).map vI
def VK(t:tv)(y:Int × Int):List D:=[.agg (wq y),.pt (D7 (jQ t y)) 0]
theorem Uf{l:List Nat}{m i:Nat}(h:i<m):(G5 l m)[i]?=some (D7 ((Bo l i).map vI)):=by
 unfold G5 Ew;rw[XF,XF,Y4 h];rfl
theorem UB{t:tv}(h:tn t){x:Int}{j:Nat}(h1:0<=x)(h2:x<t.ne)(hj:(j:Int)<t.ne):(0<=x*t.ne/\x*t.ne<=256)/\x*t.ne+(j:Int)<t.ne*t.ne:=by
 have a1:=h.n1;have a2:=h.n2;have m:=lX (a:=x) (b:=t.ne) (A:=16) (B:=16) (by omega) (by omega) (by omega) (by omega);have p:=X2 h1 (show 0<=t.ne by omega);have q:=Y8 (show x<=t.ne - 1 by omega) (show 0<=t.ne by omega);rw[Int.sub_mul]at q;omega
theorem Da(t:tv)(l:List Int)(h:tn t)(hl:∀x∈l,0<=x/\x<t.ne)(hll:l.length<=10000):PI qP 111 [] [.pt [.sl 1 (l.map iC)] 0,.pt [.pt (My t) 0] 0] ((VK t)) (mW l t.ne.toNat) true:=by
 have wY:=h.n1;have Bi:=h.n2;have⟨_,_,hm3⟩:=GO h;refine sC (qA func111 E) E ntmps111 E E λV' c l0 hJ hy AD qL=>?_;refine cG ?_;apply dC hJ
 ·intro c1 bQ cH;refine xa 3 (V (aj pn E E) (V (cd iX E (by exact aV _ _)) (V aF (rn ?_))));exact⟨rfl,rfl⟩
 change iw _ _ _ _ _ _ _;refine Ap (t:=7) E (λhl7=>?_);(try simp only[Xo]at hl7);refine fo ?_;refine lD [5,6,9,10,11,12,13,14,15,16,17,18,19,20,21,22,23,24,25,26,27,28,29,30,31,32,33,34,35,36,37,38,39,40] [] (β:=Nat) (λi=>[(9,T.i (i:Int))]) (λi=>[]) (λi=>(true,OZ l t.ne.toNat i)) (λi=>i<=l.length) (λi=>l.length - i) 0 (XC _) E (λc1=>?_) ?_
 ·exact xh (ms:=[]) (by repeat (exact Out.refl _)) ⟨(by rfl),trivial⟩ trivial
 ·intro i hi;refine cG ?_;apply dC hJ
  ·intro c1 bQ cH;refine xa 1 (V (cM E E) (rn ?_));exact⟨rfl,rfl⟩
  change iw _ _ _ _ _ _ _;refine cG ?_;refine gR E (λbW=>?_) (λbW=>?_)
  ·(try simp only[nb,Xv]at bW);have bH:i<l.length:=by omega
   obtain⟨x,hx⟩:∃x,l[i]?=some x:=⟨_,Xp bH⟩;have⟨hx1,hx2⟩:=hl x (XA hx);refine gQ ?_;change iw _ _ _ _ _ _ _;refine cG ?_;refine fo ?_;refine cG ?_;apply dC hJ
   ·intro c1 bQ cH;refine xa 3 (V (aJ gK E E (by omega) (cm (by omega) hx)) (V (aj mF E E) (V aA (rn ?_))));exact⟨rfl,rfl⟩
   change iw _ _ _ _ _ _ _;refine cG ?_;apply dC hJ
   ·intro c1 bQ cH;refine xa 5 (V (aj lg E E) (V (bZ E) (V (af oh E) (V (aj mF E E) (V aF (rn ?_))))));exact⟨rfl,rfl⟩
   change iw _ _ _ _ _ _ _;refine fo ?_;refine lD [6,17,18,19,20,21,22,23,24,25,26,27,28,29,30,31,32,33,34,35,36,37,38,39] [] (β:=Nat) (λj=>[(17,T.i (j:Int))]) (λj=>[]) (λj=>(true,OZ l t.ne.toNat i++Fh x j)) (λj=>j<=t.ne.toNat) (λj=>t.ne.toNat - j) 0 (XC _) (by show (true,_++Fh x 0)=(true,_);simp[Fh]) (λc1=>?_) ?_
   ·exact xh (ms:=[]) (by repeat (exact Out.refl _)) ⟨(by rfl),trivial⟩ trivial
   ·intro j hj;refine cG ?_;apply dC hJ
    ·intro c1 bQ cH;refine xa 1 (V (cM E E) (rn ?_));exact⟨rfl,rfl⟩
    change iw _ _ _ _ _ _ _;refine cG ?_;refine gR E (λeJ=>?_) (λeJ=>?_)
    ·(try simp only[nb,Xv]at eJ);have hlj:j<t.ne.toNat:=by omega
     have Au:=UC (n:=t.ne.toNat) hx hlj;obtain⟨⟨hq1,hq2⟩,hq3⟩:=UB h (j:=j) hx1 hx2 (by omega);have hsm:(G5 t.bf (PD t))[(x*t.ne+(j:Int)).toNat]?=some (D7 (jQ t (x,(j:Int)))):=Uf (by omega);refine gQ ?_;change iw _ _ _ _ _ _ _;refine cG ?_;refine fo ?_;refine cG ?_;apply dC hJ
     ·intro c1 bQ cH;refine xa 2 (V aF (V aA (rn ?_)));exact⟨rfl,rfl⟩
     change iw _ _ _ _ _ _ _;refine cG ?_;refine Cw 17 mixed hJ (by kernel_rfl) (λc1 bQ=>?_);refine V (aq (x:=.d (.fn _ _)) E) (V aF (V aF ?_));refine V (qk (cs:=[_,_]) kF Bt E (.cons E E' (.cons E E' .nil)) ⟨⟨rfl,by decide⟩,⟨rfl,by decide⟩,trivial⟩ E) (V (aj lg E E) (V (bZ E) (V (af AI E) (V (aj TX E E) (V aF (V (aj lg E E) (V (bZ E) (V (af oh E) (V (aj mF E E) ?_)))))))));refine V (cZ E E xi) (V aF ?_);refine V (lE E E xi) (V (aJ Uh E E (by omega) (hsm)) (aw (pJ (x:=(x,(j:Int))) hy AD E (.cons E (.cons E .nil)) Au E (λyb=>?_))));refine en hJ E (λc1 _ _ _ h=>by exact aN E ((bX E)) h) ?_;refine qF ?_;change iw _ _ _ _ _ _ _;refine gR E (λwx=>?_) (λwx=>?_)
     ·(try simp only[nb,Xv]at wx);have HO:yb=false:=by cases yb<;>first|rfl|(exfalso;simp_all;done)
      refine Ao ?_;exact⟨.inl E,λh=>by rw[HO]at h;cases h⟩
     ·(try simp only[nb,Xv]at wx);have HO:yb=true:=by cases yb<;>first|rfl|(exfalso;simp_all;done)
      refine gQ ?_;change iw _ _ _ _ _ _ _;apply dC hJ
      ·intro c1 bQ cH;refine xa 2 ?_;refine V (lE E E xi) (V aF (rn ?_));exact⟨rfl,rfl⟩
      refine⟨j+1,by omega,by omega,by rw[HO,vj,Yr],λc1=>?_⟩;exact xh (ms:=[]) (by repeat (first|exact Out.head E E|(refine Out.put ?_ E))) ⟨(by rfl),trivial⟩ trivial
    ·(try simp only[nb,Xv]at eJ);have M4:j=t.ne.toNat:=by omega
     refine m6 ?_;change iw _ _ _ _ _ _ _;apply dC hJ
     ·intro c1 bQ cH;refine xa 2 ?_;refine V (lE E E xi) (V aF (rn ?_));exact⟨rfl,rfl⟩
     refine⟨i+1,by omega,by omega,by rw[M4,B8 hx],λc1=>?_⟩;exact xh (ms:=[]) (by repeat (first|exact Out.head E E|(refine Out.put ?_ E)|(refine Out.sN ?_ E E E))) ⟨(by rfl),trivial⟩ trivial
  ·(try simp only[nb,Xv]at bW);have n7:i=l.length:=by omega
   refine m6 ?_;exact⟨.inr E,λ_=>by rw[n7,Qm]⟩
theorem H2(a b c d:Int)(h1 : -1000000000000<=a/\a<=1000000000000)(h2 : -1000000000000<=b/\b<=1000000000000)(h3 : -1000000000000<=c/\c<=1000000000000)(h4 : -1000000000000<=d/\d<=1000000000000):PC qP 38 [.agg [.v (.int .i64 (a)),.v (.int .i64 (b))],.agg [.v (.int .i64 (c)),.v (.int .i64 (d))]] (.agg [.v (.int .i64 (a+c)),.v (.int .i64 (b+d))]):=by
 refine av (qA func38 E) E ntmps38 results38 λw0=>ae (xa 2 (V (aP E H') (V (aP E H') (aw (bL jW E E E (ai (xq (xa 11 (V (af rj E) (V (aj mF E E) (V (af rj E) (V (aj mF E E) ?_))))))))))));refine V (lE E E xi) (V (af ri E) (V (aj mF E E) (V (af ri E) (V (aj mF E E) ?_))));refine V (lE E E xi) ?_;refine V (bz (cs:=[_,_]) Sp jW E (.cons E E' (.cons E E' .nil)) ⟨⟨rfl,by decide⟩,⟨rfl,by decide⟩,trivial⟩ E) (aw (ay fW E E H' E E (by decide) E (ai ?_)));change dG _ _ _ _ _;refine ah ?_;refine⟨_,(.cons (.dn E E fW E) .nil),?_⟩;rfl
theorem yT(re im:Int)(h1 : -4094<=re/\re<=4094)(h2 : -4094<=im/\im<=4094):PC qP 66 [cx re im] (.agg [.v (.int .i64 (re)),.v (.int .i64 (im))]):=by
 refine av (qA func66 E) E ntmps66 results66 λw0=>ae (xa 0 (aw (bL jW E E E (ai (xq (xa 7 (V aF (V (Fa E) (V (iH ik vU E (AQ (wH (by omega) (by omega)))) (V aF (V (Fc E) (V (iH ik vU E (AQ (wH (by omega) (by omega)))) ?_))))))))))));refine V (bz (cs:=[_,_]) Sp jW E (.cons E E' (.cons E E' .nil)) ⟨⟨rfl,by decide⟩,⟨rfl,by decide⟩,trivial⟩ E) (aw (ay fW E E H' E E (by decide) E (ai ?_)));change dG _ _ _ _ _;refine ah ?_;refine⟨_,(.cons (.dn E E fW E) .nil),?_⟩;rfl
def cz(re im:Int):D:=.v (.complex .f64 (FloatKind.f64.nearest re) (FloatKind.f64.nearest im))
theorem yU(re im:Int):PC qP 62 [.agg [.v (.int .i64 (re)),.v (.int .i64 (im))]] (cz re im):=by
 refine av (qA func62 E) E ntmps62 results62 λw0=>ae (xa 2 (V (aP E H') (V aA (rs (xa 8 (V (af rj E) (V (aj mF E E) (V (lW vU sQ E) (V (af ri E) (V (aj mF E E) (V (lW vU sQ E) (V (yp E E) (V aA (xc (ah ?_)))))))))))))));refine⟨_,cS,?_⟩;rfl
def xz(l:List Int)(n:Int):Bool:=l.any λx=>decide (n=x)
theorem uo{t:tv}(h:tn t)(y:Int × Int)(k:Nat):(-4094<=Bc (jQ t y) k/\Bc (jQ t y) k<=4094)/\(-4094<=Bg (jQ t y) k/\Bg (jQ t y) k<=4094):=Ud (R6 (Oa h.wh _)) k
theorem OG{S:List Int}{k:Nat}(hk:k<61):(D7 S)[k]?=some (cx (Bc S k) (Bg S k)):=by unfold D7;rw[XF,Y4 hk];rfl
def EE(t:tv)(c:Int)(dd:List Int)(s:(Int × Int) × Int)(y:Int × Int):(Int × Int) × Int:=
 if (xz dd y.1||xz dd y.2)=true then s
 else if dP 0 (su t.ar (gZ t.g c) y) 60=true then ((s.1.1+Bc (jQ t y) (su t.ar (gZ t.g c) y).toNat,s.1.2+Bg (jQ t y) (su t.ar (gZ t.g c) y).toNat),s.2+1)
 else s
def lN(t:tv)(c:Int)(dd:List Int)(l:List (Int × Int)):(Int × Int) × Int:=l.foldl (EE t c dd) ((0,0),0)
theorem Bx{t:tv}{c:Int}{dd:List Int}{l:List (Int × Int)}{k:Nat}{y:Int × Int}(h:l[k]?=some y):lN t c dd (l.take (k+1))=EE t c dd (lN t c dd (l.take k)) y:=by
 have⟨bH,hx⟩:=Xt.1 h;unfold lN;rw[Yh bH,hx,List.foldl_append];rfl
theorem EF{t:tv}(h:tn t){c:Int}{dd:List Int}{l:List (Int × Int)}:∀k:Nat,k<=l.length->(-(4094*(k:Int))<=(lN t c dd (l.take k)).1.1/\(lN t c dd (l.take k)).1.1<=4094*(k:Int))/\(-(4094*(k:Int))<=(lN t c dd (l.take k)).1.2/\(lN t c dd (l.take k)).1.2<=4094*(k:Int))/\0<=(lN t c dd (l.take k)).2/\(lN t c dd (l.take k)).2<=(k:Int)
 | 0,_=>by
  have e:lN t c dd (l.take 0)=((0,0),0):=rfl;rw[e];simp only;omega
 | k+1,hk=>by
  have ih:=EF h (c:=c) (dd:=dd) (l:=l) k (by omega);have hy:l[k]?=some l[k]:=Xp (by omega);have hb:=uo h l[k] (su t.ar (gZ t.g c) l[k]).toNat;rw[Bx hy];unfold EE
  split
  ·omega
  ·split
   ·simp only;omega
   ·omega
theorem GL(t:tv)(c:Int)(fs dd:List Int)(h:tn t)(hc:Bn t.g c=0)(hf:∀x∈fs,0<=x/\x<t.ne)(CV:fs.length<=100):PC qP 61 [.pt (My t) 0,.v (.int .i64 (c)),.sl 1 (fs.map iC),.sl 1 (dd.map iC)] (.da [.agg [.v (.int .i64 ((lN t c dd (mW fs t.ne.toNat)).1.1)),.v (.int .i64 ((lN t c dd (mW fs t.ne.toNat)).1.2))],.v (.int .i64 ((lN t c dd (mW fs t.ne.toNat)).2))]):=by
 have wY:=h.n1;have Bi:=h.n2
 have hlen:(mW fs t.ne.toNat).length<=1600:=by
  rw[zS];have:=Nat.mul_le_mul CV (show t.ne.toNat<=16 by omega);omega
 refine aY (qA func61 E) E ntmps61 results61 λw0 bQ cH iK=>ae (xa 3 (V (aP E E') (V (aP E E') (V (aP E E') (aw (bL jW E E E (aN E aA (ai (xq (xa 0 (aw (bL jW E E E (ai (xq (xa 0 (aw (bL Br E E E (ay mF E E E' E E (by decide) E (ai (xq (ae (xa 3 (V (aj lg E E) (V (aq (x:=.d (.sl _ _)) E) (V (ak am6 (.cons E (.cons E .nil)) E (C9 t fs)) (xc (az ?_)))))))))))))))))))))))))));refine nE (α:=Int × Int) (β:=Nat) (n:=51) (enc:=(VK t)) (items:=mW fs t.ne.toNat) 1000 [(4,.d (.pt [.pt (My t) 0] 0)),(5,.d (.pt [.v (.int .i64 (c))] 0)),(7,.d (.pt [.sl 1 (dd.map iC)] 0)),(8,.ref 8 0),(10,.ref 10 0),(11,.ref 11 0),(18,.d (.fn (.func 111) [.pt [.sl 1 (fs.map iC)] 0,.pt [.pt (My t) 0] 0]))] (λx=>[(8,.box [.v (.int .i64 (0)),.v (.int .i64 (0))]),(10,.box [.v (.int .i64 ((lN t c dd ((mW fs t.ne.toNat).take x)).1.1)),.v (.int .i64 ((lN t c dd ((mW fs t.ne.toNat).take x)).1.2))]),(11,.box [.v (.int .i64 ((lN t c dd ((mW fs t.ne.toNat).take x)).2))])]) (λk x=>x=k) (λe x=>False) 0 cH ?_ (.inr ⟨rfl,rfl⟩) Tt (Da t fs h hf (by omega)) E (λ_=>rfl) E (λx=>qV (gS (og (by repeat (first|exact trivial|refine⟨.v _,?_⟩))) (gS (og (by repeat (first|exact trivial|refine⟨.v _,?_⟩))) (gS (og (by repeat (first|exact trivial|refine⟨.v _,?_⟩))) uE)))) (λ_=>rfl) E (λh=>by cases h) ?_ ?_ ?_
 ·exact Ld (λk=>k) _ _ E ⟨rfl,rfl,rfl,rfl,rfl,rfl,rfl,trivial⟩ ⟨rfl,rfl,rfl,trivial⟩ E (λk b h=>by rw[iK k]at h;cases h)
 ·intro w1 tX k x y hI hy;subst hI;have hmy:=Lz (XA hy);have⟨hy0,hy3,hy4⟩:=hmy;obtain⟨hy1,hy2⟩:=hf _ hy0;have CC:x<(mW fs t.ne.toNat).length:=(Xt.1 hy).1;obtain⟨⟨b1,b2⟩,⟨b3,b4⟩,b5,b6⟩:=EF h (c:=c) (dd:=dd) (l:=mW fs t.ne.toNat) x (by omega);have⟨hre,qK⟩:=uo h y (su t.ar (gZ t.g c) y).toNat;have dU:=Bx (t:=t) (c:=c) (dd:=dd) hy;unfold EE at dU;refine ae (xa 0 (aw (dF Bt E oQ E E H' E E (ai ?_))));change dG _ _ _ _ _;refine xa 1 (V (aG (x:=.d (.pt _ _)) E) (rn ?_));refine⟨rfl,λw2 tW=>?_⟩;refine az (ae (ae (xa 10 (V (aj pn E E) (V (cj kF E E (by omega) (by omega)) (V (aj mF E E) (V (ak Tu (.cons E (.cons E .nil)) E (tI dd y.1)) (V aF (aE E E (λhG=>(aj pn E E)) ?_)))))))));refine aE E E (λhG=>(cj kF E E (by (have iR:=T.cP (a:=_) hG.1;(try simp only[nb,Xv]at iR);omega)) (by (have iR:=T.cP (a:=_) hG.1;(try simp only[nb,Xv]at iR);omega)))) (aE E E (λhG=>(aj mF E E)) (aE E E (λhG=>(ak Tu (.cons E (.cons E .nil)) E (tI dd y.2))) (aT E E E E E E ?_)));refine xc (ao E (λwx=>?_) (λwx=>?_))
  ·(try simp only[nb,Xv]at wx);have J:(xz dd y.1||xz dd y.2)=true:=by unfold xz;simpa using wx
   rw[Xu J]at dU;refine bJ (.inl ⟨rfl,x+1,rfl,?_⟩);exact jA [] _ tW E ⟨(by rfl),(by (show aH.box _=aH.box _;(rw[dU];done))),(by (show aH.box _=aH.box _;(rw[dU];done))),trivial⟩ E
  ·(try simp only[nb,Xv]at wx)
   have J:¬(xz dd y.1||xz dd y.2)=true:=by
    intro q;rw[X3]at q;unfold xz at q;rcases q with q|q
    ·rw[wx.1]at q;cases q
    ·rw[wx.2]at q;cases q
   rw[Xr J]at dU;refine wO ?_;change dG _ _ _ _ _;refine ae (xa 9 (V (aj lg E E) (V (aj mF E E) (V (ax (ds:=[_,_]) oQ E E E) (V (ak aq9 (.cons E (.cons E (.cons E .nil))) E (L2 t c y h hc ⟨⟨hy1,hy2⟩,hy3,by omega⟩)) (V (aq (x:=.d (.da _)) E) (V (au E E) (V (au E E) (V aA (V aA (rs (xa 1 (V aF (xc (ao E (λoM=>?_) (λoM=>?_))))))))))))))))
   ·(try simp only[nb,Xv]at oM);rw[Xu oM]at dU;have n7:=cY.1 oM;refine kE 10 1 [8,9] mixed (by kernel_rfl) ?_;refine V (aX (ds:=[_,_]) fW E E E E) (V (aq (x:=.d (.pt _ _)) E) (V aF (V (bZ E) (V (cj TE E E (by omega) (by omega)) ?_))));refine V (aj KE E (by rw[XK,YA];exact OG (S:=jQ t y) (by omega))) (V (ak am5 (.cons E .nil) E (yT _ _ hre qK)) (V (ak an2 (.cons E (.cons E .nil)) E (H2 _ _ _ _ (by omega) (by omega) (by omega) (by omega))) (V (aQ mF E E E) ?_)));refine V (lE E E xi) (aw (vE (Ib fW E E H' E E (by exact Nat.le_of_ble_eq_true E) E) ?_ ?_))
    ·refine gu E E E (JL (aQ mF E E E)) ?_
     first|refine gu E E E (JL (lE E E xi)) ?_
     exact wC
    refine qC ?_;refine ay mF E E E' E E (by simp;done) E (ai (.inl ⟨rfl,x+1,rfl,?_⟩));exact jA [] _ tW E ⟨(by rfl),(by (show aH.box _=aH.box _;(rw[dU];rfl))),(by (show aH.box _=aH.box _;(rw[dU];rfl))),trivial⟩ E
   ·(try simp only[nb,Xv]at oM);rw[Xr (by rw[oM];decide)]at dU;refine wO (.inl ⟨rfl,x+1,rfl,?_⟩);exact jA [] _ tW E ⟨(by rfl),(by (show aH.box _=aH.box _;(rw[dU];done))),(by (show aH.box _=aH.box _;(rw[dU];done))),trivial⟩ E
 ·intro x hI;have W4:x=(mW fs t.ne.toNat).length:=hI;subst W4;rw[YL]at *;change dG _ _ _ _ _;refine ae (kE 2 1 [1] mixed (by kernel_rfl) ?_);refine V (aX (ds:=[_,_]) fW E E E E) (V (aQ mF E E E) (aw (vE (Ib fW E E H' E E (by decide) E) ?_ ?_)))
  ·refine gu E E E (JL (aQ mF E E E)) ?_
   exact wC
  refine qC ?_;refine aN E aA (ai ?_);change dG _ _ _ _ _;refine ah ?_;refine⟨_,(.cons (.dn E E fW E) cS),?_⟩;rfl
 ·exact λe x h=>h.elim
def NC(t:tv):List (Int × Int):=mW (gY t.ne.toNat) t.ne.toNat
def vlI(t:tv)(c:Int):(Int × Int) × Int:=lN t c [] (NC t)
theorem A5{t:tv}(h:tn t):(∀x∈gY t.ne.toNat,0<=x/\x<t.ne)/\(gY t.ne.toNat).length<=16:=by
 have h1:=h.n1;have h2:=h.n2;refine⟨λx hx=>?_,by rw[rQ];omega⟩;have:=Iq hx;omega
theorem Iz(t:tv)(c:Int)(h:tn t)(hc:Bn t.g c=0):PC qP 25 [.agg (q8 t),.v (.int .i64 (c))] (.da [cz (vlI t c).1.1 (vlI t c).1.2,.v (.int .i64 ((vlI t c).2)),.v (.int .i64 (0))]):=by
 have wY:=h.n1;have Bi:=h.n2;have⟨WZ,ha2⟩:=A5 h;refine aY (qA func25 E) E ntmps25 results25 λw0 bQ cH iK=>ae (xa 4 (V (aP E H') (V aA (V aA (V aA (rs (xa 8 (V (ax kJ E E E) (V aF (V (ak am9 (.cons E (.cons E .nil)) E ((by have h:=vq t c h;rw[hc]at h;exact h))) (V (aq (x:=.d (.da _)) E) (V (au E E) (V (au E E) (V (aG (x:=.d (.pt _ _)) E) (V aA (rs (ae (xa 2 (V aF (V (bS E E) (xc (ao E (λbV=>?_) (λbV=>?_)))))))))))))))))))))))
 ·simp at bV
 ·(try simp only[nb,Xv]at bV);refine wO ?_;change dG _ _ _ _ _;refine ae (xa 8 (V (aq (x:=.d (.pt _ _)) E) (V aF (V (aq (x:=.d (.pt _ _)) E) (V (ak VL (.cons E .nil) E (OH t wY Bi)) (V (ak am8 (.cons E (.cons E (.cons E (.cons E .nil)))) E (GL t c (gY t.ne.toNat) [] h hc WZ (by omega))) (V (aq (x:=.d (.da _)) E) (V (au E E) (V (au E E) (aw (dF jW E fW E E H' E E (aN E aA (ai (xq (xa 6 (V (ax (ds:=[_,_]) fW E E E) (V (ak am7 (.cons E .nil) E (yU _ _)) (V aF (V aA (V aA (V aA (xc (ah ?_)))))))))))))))))))))));refine⟨_,xk3,?_⟩;rfl
theorem Mi:mpB qP 153 4=true:=by kernel_rfl
def frR(n:Int):List Int->List Int->Int × List Int
 | ks,[]=>(0,ks)
 | ks,x::l=>if ¬dP 0 x (n - 1)=true then (6,ks) else if x∈ks then (24,ks) else frR n (ks++[x]) l
theorem Nt{n:Int}{ks l:List Int}{k:Nat}{x:Int}(h:l[k]?=some x):frR n ks (l.drop k)=if ¬dP 0 x (n - 1)=true then (6,ks) else if x∈ks then (24,ks) else frR n (ks++[x]) (l.drop (k+1)):=by
 obtain⟨bH,rfl⟩:=Xt.1 h;rw[Yf bH];rfl
def lC(l:List Int):List D:=[.sl 1 (l.map iC)]
def dlT(n:Int):List Int->Int->List (List Int)->Int × (List Int × Int)
 | ks,b,[]=>(0,(ks,b))
 | ks,b,l::dl=>if (frR n ks l).1≠0 then ((frR n ks l).1,(ks,b)) else dlT n (frR n ks l).2 (if 0<l.length then b+1 else b) dl
theorem aN7{n:Int}{ks:List Int}{b:Int}{dl:List (List Int)}{k:Nat}{l:List Int}(h:dl[k]?=some l):dlT n ks b (dl.drop k)=if (frR n ks l).1≠0 then ((frR n ks l).1,(ks,b)) else dlT n (frR n ks l).2 (if 0<l.length then b+1 else b) (dl.drop (k+1)):=by
 obtain⟨bH,rfl⟩:=Xt.1 h;rw[Yf bH];rfl
def rm(n:Int)(dl:List (List Int)):Int × Int:=
 if ¬dP 1 n 16=true then (0,2) else if 16<dl.length then (0,8)
 else if (dlT n [] 0 dl).1≠0 then (0,(dlT n [] 0 dl).1) else if ((dlT n [] 0 dl).2.1.length:Int)<n then (0,14) else ((dlT n [] 0 dl).2.2,0)
theorem AO(n:Int)(l ks:List Int)(h1 : -1000000<=n)(h2:n<=1000000):TF qP 69 [.d (.v (.int .i64 (n))),.d (.sl 1 (l.map iC)),.mp 0] [.mp (uA ks) ks.length] (.d (.v (.int .i64 ((frR n ks l).1)))) [.mp (uA (frR n ks l).2) (frR n ks l).2.length]:=by
 refine Fo (qA func69 E) E ntmps69 (rs:=[.tmp 6]) results69 (by simp) λw0=>ae (xa 1 (V aA (rs (ae (xa 3 (V (aq (x:=.d (.sl _ _)) E) (V (cd iX E (by exact aV _ _)) (V aF (xc (bm (t:=9) E (λhl9=>?_)))))))))));(try simp only[Xo]at hl9);refine az ?_;refine bG [6,8,11,12,13,14,15,16,17,18,19,20,21,22,23,24,25,26,27] [28] (α:=Nat) (λk=>[(11,T.i (k:Int))]) (λk=>[(28,.mp (uA (ks++l.take k)) (ks++l.take k).length)]) (λk=>k<=l.length/\frR n ks l=frR n (ks++l.take k) (l.drop k)) (λk=>l.length - k) 0 ⟨XC _,by simp⟩ ?_ ?_
 ·exact xh (ms:=[28]) (by repeat (exact Out.refl _)) ⟨(by rfl),trivial⟩ ⟨(by ((show aH.mp _ _=aH.mp _ _;(simp;done)))),trivial⟩
 ·intro k ⟨hk,hh⟩;refine ae (xa 1 (V (cM E E) (rs (ao E (λbV=>?_) (λbV=>?_)))))
  ·(try simp only[nb,Xv]at bV);have bH:k<l.length:=by omega
   obtain⟨x,hx⟩:∃x,l[k]?=some x:=⟨_,Xp bH⟩;rw[Nt hx]at hh;have Jp:ks++l.take (k+1)=ks++l.take k++[x]:=by rw[Yh bH,(Xt.1 hx).2,Yr]
   refine wO ?_;change dG _ _ _ _ _;refine ae (az (ae (xa 3 (V (aJ gK E E (by omega) (cm (by omega) hx)) (V (aj mF E E) (V aA (rs (az (ae (xa 6 (V aF (V aF ?_))))))))))));refine V (dk E E xi) (V (ak pO (.cons E (.cons E (.cons E .nil))) E (dA _ _ _)) (V (bX E) (V aA (xc (ao E (λeJ=>?_) (λeJ=>?_))))))
   ·(try simp only[nb,Xv]at eJ);have hz:frR n ks l=(6,ks++l.take k):=by rw[hh,Xu (by rw[eJ];decide)]
    refine ae (xa 1 (V aA (xc (ah ?_))));rw[hz];exact F3 (.inl E) [28] (.tmp E) (by repeat (first|exact trivial|refine⟨(by rfl),?_⟩)) E
   ·(try simp only[nb,Xv]at eJ);rw[Xr (λq=>q eJ)]at hh;refine ae (xa 4 (V (aq (x:=.own _ _ _ _) E) (V aF (V (I1 Mi zr4 E E E) (V aA (xc (ao E (λwx=>?_) (λwx=>?_))))))))
    ·(try simp only[nb,Xv]at wx);have hz:frR n ks l=(24,ks++l.take k):=by rw[hh,Xu wx]
     refine ae (xa 1 (V aA (xc (ah ?_))));rw[hz];exact F3 (.inl E) [28] (.tmp E) (by repeat (first|exact trivial|refine⟨(by rfl),?_⟩)) E
    ·(try simp only[nb,Xv]at wx);rw[Xr wx]at hh;refine wO ?_;change dG _ _ _ _ _;refine xa 2 (V (aq (x:=.own _ _ _ _) E) (V aF (aw (wT Mi E E E E wx ?_))));refine ai ?_;change dG _ _ _ _ _;refine xa 2 ?_;refine V (lE E E xi) (V aF (rn ?_));refine⟨k+1,⟨by omega,by rw[hh,Jp]⟩,by omega,?_⟩;exact xh (ms:=[28]) (by repeat (first|exact Out.head E E|(refine Out.put ?_ E)|(refine Out.site ?_ E))) ⟨(by rfl),trivial⟩ ⟨(by ((show aH.mp _ _=aH.mp _ _;(rw[Jp];done)))),trivial⟩
  ·(try simp only[nb,Xv]at bV);have vP:k=l.length:=by omega
   have hz:frR n ks l=(0,ks++l.take k):=by rw[hh,vP,ZI];rfl
   refine bJ ?_;change dG _ _ _ _ _;refine ae (xa 1 (V aA (xc (ah ?_))));rw[hz];exact F3 (.inl E) [28] (.tmp E) (by repeat (first|exact trivial|refine⟨(by rfl),?_⟩)) E
theorem nD(n:Int)(dl:List (List Int)):PC qP 28 [.v (.int .i64 (n)),.sl 1 (dl.map lC)] (.da [.v (.int .i64 ((rm n dl).1)),.v (.int .i64 ((rm n dl).2))]):=by
 refine aY (qA func28 E) E ntmps28 results28 λw0 bQ cH iK=>ae (xa 2 (V aA (V aA (rs (az (ae (xa 4 (V aF (V (ak pO (.cons E (.cons E (.cons E .nil))) E (dA _ _ _)) (V (bX E) (V aA (xc (ao E (λbW=>?_) (λbW=>?_))))))))))))))
 ·(try simp only[nb,Xv]at bW);have hz:rm n dl=(0,2):=by unfold rm;rw[Xu (by rw[bW];decide)]
  refine ae (xa 2 (V aA (V aA (xc (ah ?_)))));refine⟨_,gz,?_⟩;rw[hz];rfl
 ·(try simp only[nb,Xv]at bW);have hn:1<=n/\n<=16:=cY.1 bW;refine ae (xa 4 (V (aq (x:=.d (.sl _ _)) E) (V (cd tC E (by exact aV _ _)) (V (gM E E) (V aA (xc (bm (t:=16) E (λAy=>?_))))))));(try simp only[Xo]at Ay);refine ao E (λdB=>?_) (λdB=>?_)
  ·(try simp only[nb,Xv]at dB);have hz:rm n dl=(0,8):=by unfold rm;rw[Xr (λq=>q bW),Xu (by omega)]
   refine ae (xa 2 (V aA (V aA (xc (ah ?_)))));refine⟨_,gz,?_⟩;rw[hz];rfl
  ·(try simp only[nb,Xv]at dB);have eE:rm n dl=if (dlT n [] 0 dl).1≠0 then (0,(dlT n [] 0 dl).1) else if ((dlT n [] 0 dl).2.1.length:Int)<n then (0,14) else ((dlT n [] 0 dl).2.2,0):=by unfold rm;rw[Xr (λq=>q bW),Xr (by omega)]
   refine wO ?_;change dG _ _ _ _ _;refine ae (xa 0 (aw (A3 E E ?_)));refine aN E (aG (x:=.own _ _ _ _) E) (ai (xq (xa 1 (V aA (rs (ae (xa 3 (V (aq (x:=.d (.sl _ _)) E) (V (cd tC E (by exact aV _ _)) (V aF (xc (bm (t:=20) E (λaA3=>?_)))))))))))));(try simp only[Xo]at aA3);refine az ?_;refine bG [4,5,7,9,10,22,23,24,25,26,27,28,29,30,31,32,33,34,35,36,37,38] [19] (α:=Nat × List Int × Int) (λx=>[(22,T.i (x.1:Int)),(7,.d (.v (.int .i64 (x.2.2))))]) (λx=>[(19,.mp (uA x.2.1) x.2.1.length)]) (λx=>x.1<=dl.length/\dlT n [] 0 dl=dlT n x.2.1 x.2.2 (dl.drop x.1)/\0<=x.2.2/\x.2.2<=(x.1:Int)) (λx=>dl.length - x.1) (0,[],0) ⟨XC _,rfl,by decide,by decide⟩ ?_ ?_
   ·exact xh (ms:=[19]) (by repeat (exact Out.refl _)) ⟨(by rfl),(by rfl),trivial⟩ ⟨(by rfl),trivial⟩
   ·intro x ⟨hk,hh,J8,Rc⟩;refine ae (xa 1 (V (cM E E) (rs (ao E (λoM=>?_) (λoM=>?_)))))
    ·(try simp only[nb,Xv]at oM);have bH:x.1<dl.length:=by omega
     obtain⟨l,hx⟩:∃l,dl[x.1]?=some l:=⟨_,Xp bH⟩;rw[aN7 hx]at hh;refine wO ?_;change dG _ _ _ _ _;refine ae (az (ae (xa 3 (V (aJ uW E E (by omega) (cm (by omega) hx)) (V (aj pn E E) (V (aG (x:=.d (.sl _ _)) E) (rs (ae (xa 3 (V aF (V (aq (x:=.d (.sl _ _)) E) (V (aq (x:=.own _ _ _ _) E) (aw ?_)))))))))))));refine Gu [19] [] aD4 (AO n l x.2.1 (by omega) (by omega)) (.cons E (.cons E (.cons E .nil))) E E E (by repeat (first|exact trivial|refine⟨rfl,?_⟩)) (by repeat (exact trivial)) E ?_;refine aN E aA (ai (xq (xa 2 (V aF (V (bS E E) (xc (ao E (λxy=>?_) (λxy=>?_))))))))
     ·(try simp only[nb,Xv]at xy);have hz:rm n dl=(0,(frR n x.2.1 l).1):=by rw[eE,hh,Xu xy,Xu xy]
      refine ae (xa 3 (V aF (V aA (V aA (xc (ah ?_))))));refine⟨_,gz,?_⟩;rw[hz];rfl
     ·(try simp only[nb,Xv]at xy);rw[Xr (λq=>q xy)]at hh;refine wO ?_;change dG _ _ _ _ _;refine ae (xa 3 (V (aq (x:=.d (.sl _ _)) E) (V (cd iX E (by exact aV _ _)) (V (gM E E) (xc (bm (t:=33) E (λU9=>?_)))))));(try simp only[Xo]at U9);refine ao E (λoN=>?_) (λoN=>?_)
      ·(try simp only[nb,Xv]at oN);rw[Xu (by omega)]at hh;refine xa 3 (V aF ?_);refine V (lE E E xi) (V aA (rn ?_));change dG _ _ _ _ _;refine xa 2 ?_;refine V (lE E E xi) (V aF (rn ?_));refine⟨(x.1+1,(frR n x.2.1 l).2,x.2.2+1),⟨by show x.1+1<=_;omega,hh,by show 0<=x.2.2+1;omega,by show x.2.2+1<=((x.1+1:Nat):Int);omega⟩,by show dl.length - (x.1+1)<_;omega,?_⟩;exact xh (ms:=[19]) (by repeat (first|exact Out.head E E|(refine Out.put ?_ E)|(refine Out.called ?_ E E))) ⟨(by rfl),(by rfl),trivial⟩ ⟨(by rfl),trivial⟩
      ·(try simp only[nb,Xv]at oN);rw[Xr (by omega)]at hh;refine wO ?_;change dG _ _ _ _ _;refine xa 2 ?_;refine V (lE E E xi) (V aF (rn ?_));refine⟨(x.1+1,(frR n x.2.1 l).2,x.2.2),⟨by show x.1+1<=_;omega,hh,by show 0<=x.2.2;omega,by show x.2.2<=((x.1+1:Nat):Int);omega⟩,by show dl.length - (x.1+1)<_;omega,?_⟩;exact xh (ms:=[19]) (by repeat (first|exact Out.head E E|(refine Out.put ?_ E)|(refine Out.called ?_ E E))) ⟨(by rfl),(by rfl),trivial⟩ ⟨(by rfl),trivial⟩
    ·(try simp only[nb,Xv]at oM);have vP:x.1=dl.length:=by omega
     rw[vP,ZI,show dlT n x.2.1 x.2.2 []=(0,(x.2.1,x.2.2)) from rfl]at hh;rw[hh,Xr (show ¬((0:Int),(x.2.1,x.2.2)).1≠0 from λq=>q E)]at eE;refine bJ ?_;change dG _ _ _ _ _;refine ae (ae (xa 4 (V (aq (x:=.own _ _ _ _) E) (V (Lm Mi E E E) (V aF (V (cM E E) (xc (ao E (λqM=>?_) (λqM=>?_)))))))))
     ·(try simp only[nb,Xv]at qM);have hz:rm n dl=(0,14):=by rw[eE,Xu (show (((0:Int),(x.2.1,x.2.2)).2.1.length:Int)<n from qM)]
      refine ae (xa 2 (V aA (V aA (xc (ah ?_)))));refine⟨_,gz,?_⟩;rw[hz];rfl
     ·(try simp only[nb,Xv]at qM);have hz:rm n dl=(x.2.2,0):=by rw[eE,Xr (show ¬(((0:Int),(x.2.1,x.2.2)).2.1.length:Int)<n from by show ¬(x.2.1.length:Int)<n;omega)]
      refine wO ?_;change dG _ _ _ _ _;refine ae (xa 3 (V aF (V aA (V aA (xc (ah ?_))))));refine⟨_,gz,?_⟩;rw[hz];rfl
def pwB(n:Int):Bool:=!dP 0 n 1000000000000000
def NA(g:iZ)(pw:List Int):List D:=qO g++[.sl 1 (pw.map iC)]
def Ja(g:iZ)(pw:List Int):Int:=if pW g≠0 then pW g else if (pw.length:Int)≠g.co*g.ro then 10 else c9 (pw.any pwB) 2
def z6:List D:=[.v (.int .i64 0),.v (.int .i64 0),.v (.int .i64 0),.v (.int .i64 0),.v (.int .i64 0),.v (.slice none 0 0)]
def L1(g:iZ)(pw:List Int):List D:=if pW g≠0 then z6 else if (pw.length:Int)≠g.co*g.ro then z6 else NA g pw
theorem zY(n:Int):PC qP 106 [.v (.int .i64 (n))] (.v (.bool (pwB n))):=by
 refine av (qA func106 E) E ntmps106 results106 λw0=>ae (xa 1 (V aA (rs (xa 4 (V aF (V (ak pO (.cons E (.cons E (.cons E .nil))) E (dA _ _ _)) (V (bX E) (V aA (xc (ah ?_))))))))));refine⟨_,cS,?_⟩;rfl
theorem Cg(g:iZ)(pw:List Int):PC qP 57 [.agg (qO g),.sl 1 (pw.map iC)] (.da [.agg (L1 g pw),.v (.int .i64 (Ja g pw))]):=by
 refine aY (qA func57 E) E ntmps57 results57 λw0 bQ cH iK=>ae (xa 1 (V (aP E H') (aw (bL xO E E E (aN E aA (ai (xq (ae (xa 3 (V (ax (ds:=[_,_,_,_,_]) mI E E E) (V (ak NT (.cons E .nil) E (ma _)) (V aA (rs (xa 2 (V aF (V (bS E E) (xc (ao E (λbV=>?_) (λbV=>?_)))))))))))))))))))
 ·(try simp only[nb,Xv]at bV);have eA:Ja g pw=pW g:=by unfold Ja;rw[Xu bV]
  have eM:L1 g pw=z6:=by unfold L1;rw[Xu bV]
  refine ae (xa 2 (V (bz (cs:=[_,_,_,_,_,_]) LI xO E .nil trivial E) (V aF (aw (ay mh E E H' E E (by decide) E (aN E aA (ai ?_)))))));change dG _ _ _ _ _;refine ah ?_;refine⟨_,(.cons (.dn E E mh E) cS),?_⟩;rw[eA,eM];rfl
 ·(try simp only[nb,Xv]at bV);have iR:pW g=0:=bV;have⟨hg,_,_⟩:=gW iR;have yO:=dg hg;refine wO ?_;change dG _ _ _ _ _;refine ae (xa 4 (V (ax (ds:=[_,_,_,_,_]) mI E E E) ?_));refine V (bz (cs:=[_,_,_,_,_]) LF Bq E (.cons E H' .nil) ⟨⟨rfl,by decide⟩,trivial⟩ E) (V (aq (x:=.d (.sl _ _)) E) ?_);refine V (bz (cs:=[_,_,_,_,_,_]) LI xO E (.cons E H' (.cons E E' .nil)) ⟨⟨rfl,by decide⟩,⟨rfl,by decide⟩,trivial⟩ E) (aw (dF xO E mh E E H' E E (ai (xq (ae (xa 6 (V (aq (x:=.d (.sl _ _)) E) (V (cd iX E (by exact aV _ _)) (V (af lG E) (V (ax (ds:=[_,_,_,_,_]) oE E E E) (V (ak F4 (.cons E .nil) E (jG _ (by assumption))) (V (bS E E) (xc (bm (t:=18) E (λVb=>?_)))))))))))))));(try simp only[Xo]at Vb);refine ao E (λeU=>?_) (λeU=>?_)
  ·(try simp only[nb,Xv]at eU);have eA:Ja g pw=10:=by unfold Ja;rw[Xr (λq=>q iR),Xu (by simpa using eU)]
   have eM:L1 g pw=z6:=by unfold L1;rw[Xr (λq=>q iR),Xu (by simpa using eU)]
   refine ae (xa 1 (V (bz (cs:=[_,_,_,_,_,_]) LI xO E .nil trivial E) (aw (ay mh E E H' E E (by decide) E (aN E aA (ai ?_))))));change dG _ _ _ _ _;refine ah ?_;refine⟨_,(.cons (.dn E E mh E) cS),?_⟩;rw[eA,eM];rfl
  ·(try simp only[nb,Xv]at eU);have eA:Ja g pw=c9 (pw.any pwB) 2:=by unfold Ja;rw[Xr (λq=>q iR),Xr (by simpa using eU)]
   have eM:L1 g pw=NA g pw:=by unfold L1;rw[Xr (λq=>q iR),Xr (by simpa using eU)]
   refine wO ?_;change dG _ _ _ _ _;refine ae (kE 4 1 [1,2] mixed (by kernel_rfl) ?_);refine V (ax (ds:=[_,_,_,_,_,_]) mh E E E) (V (aq (x:=.d (.sl _ _)) E) (V (ak ar3 (.cons E (.cons E .nil)) E (xL pwB 106 [] ar2 pw (λa _=>zY a))) (V (ak yZ (.cons E (.cons E .nil)) E (n9 _ _)) (aw (vE (Ib mh E E H' E E (by decide) E) ?_ ?_)))))
   ·refine gu E E E (JL (aq (x:=.d (.sl _ _)) E)) ?_
    refine gu E E E (JL (ak ar3 (.cons E (.cons E .nil)) E (xL pwB 106 [] ar2 pw (λa _=>zY a)))) ?_;exact wC
   refine qC ?_;refine aN E aA (ai ?_);change dG _ _ _ _ _;refine ah ?_;refine⟨_,(.cons (.dn E E mh E) cS),?_⟩;rw[eA,eM];rfl
structure OS(g:iZ)(pw:List Int):Prop where
 gr:kG g
 len:(pw.length:Int)=g.co*g.ro
 pw:∀p∈pw,0<=p/\p<=1000000000000000
theorem af6{g:iZ}{pw:List Int}(h:Ja g pw=0):OS g pw/\L1 g pw=NA g pw:=by
 unfold Ja at h;by_cases h1:pW g≠0
 ·rw[Xu h1]at h;exact absurd h h1
 rw[Xr h1]at h;by_cases h2:(pw.length:Int)≠g.co*g.ro
 ·rw[Xu h2]at h;cases h
 rw[Xr h2,fL (by decide)]at h;refine⟨⟨(gW (XU.1 h1)).1,XU.1 h2,λp hp=>?_⟩,?_⟩
 ·have:=List.any_eq_false.1 h p hp
  unfold pwB at this;simp[dP]at this;omega
 ·unfold L1
  rw[Xr h1,Xr h2]
theorem Oz(g:iZ)(pw:List Int)(c:Int):PC qP 107 [.agg (NA g pw),.v (.int .i64 (c))] (.fn (.func 135) [.pt [.v (.int .i64 (c))] 0,.pt (NA g pw) 0]):=by
 refine av (qA func107 E) E ntmps107 results107 λw0=>ae (xa 3 (V (aP E H') (V (aP E E') (V (aG (x:=.d (.v .nilFunc)) E) (rs (xa 2 (V (jw (.cons E (.cons E .nil))) (V (aG (x:=.d (.fn _ _)) E) (xc (ah ?_))))))))));refine⟨_,cS,?_⟩;rfl
def Ik(g:iZ)(c r:Int)(j:Nat):List Int:=((List.range j).map λq:Nat=>r*g.co+(max 0 (c.tmod g.co - 1)+(q:Int))).filter λn=>decide (n≠c)
def Pj(g:iZ)(c:Int):Nat:=(min (g.co - 1) (c.tmod g.co+1) - max 0 (c.tmod g.co - 1)+1).toNat
def Il(g:iZ)(c:Int):Nat:=(min (g.ro - 1) (c.tdiv g.co+1) - max 0 (c.tdiv g.co - 1)+1).toNat
def Gq(g:iZ)(c:Int)(i:Nat):List Int:=(List.range i).flatMap λp:Nat=>Ik g c (max 0 (c.tdiv g.co - 1)+(p:Int)) (Pj g c)
theorem rP{g:iZ}{c r:Int}{j:Nat}:Ik g c r (j+1)=Ik g c r j++(if decide (r*g.co+(max 0 (c.tmod g.co - 1)+(j:Int))≠c)=true then [r*g.co+(max 0 (c.tmod g.co - 1)+(j:Int))] else []):=by
 unfold Ik;rw[ZA,Yw,List.filter_append];congr 1;by_cases h:decide (r*g.co+(max 0 (c.tmod g.co - 1)+(j:Int))≠c)=true
 ·rw[Xu h,List.map_singleton];simp at h;simp[h]
 ·rw[Xr h,List.map_singleton];simp at h;simp[h]
theorem wR{g:iZ}{c:Int}{i:Nat}:Gq g c (i+1)=Gq g c i++Ik g c (max 0 (c.tdiv g.co - 1)+(i:Int)) (Pj g c):=by unfold Gq;rw[ZA,List.flatMap_append];simp
theorem Ij{g:iZ}{c r:Int}{j:Nat}:∀{n:Nat},j<=n->Ik g c r j <+: Ik g c r n
 | 0, h => by
   have:j=0:=by omega
   subst this;exact Zn
 | n+1,h=>by
  by_cases e:j=n+1
  ·subst e;exact Zn
  ·rw[rP];exact(Ij (show j<=n by omega)).trans (Y7 _ _)
theorem Im{g:iZ}{c:Int}{i:Nat}:∀{m:Nat},i<=m->Gq g c i <+: Gq g c m
 | 0, h => by
   have:i=0:=by omega
   subst this;exact Zn
 | m+1,h=>by
  by_cases e:i=m+1
  ·subst e;exact Zn
  ·rw[wR];exact(Im (show i<=m by omega)).trans (Y7 _ _)
theorem Wd{g:iZ}{c:Int}{i j:Nat}(hi:i<Il g c)(hj:j<Pj g c)(hb:decide ((max 0 (c.tdiv g.co - 1)+(i:Int))*g.co+(max 0 (c.tmod g.co - 1)+(j:Int))≠c)=true) :
  Gq g c i++Ik g c (max 0 (c.tdiv g.co - 1)+(i:Int)) j++[(max 0 (c.tdiv g.co - 1)+(i:Int))*g.co+(max 0 (c.tmod g.co - 1)+(j:Int))] <+: Gq g c (Il g c):=by
 have e:Ik g c (max 0 (c.tdiv g.co - 1)+(i:Int)) (j+1)=Ik g c (max 0 (c.tdiv g.co - 1)+(i:Int)) j++[(max 0 (c.tdiv g.co - 1)+(i:Int))*g.co+(max 0 (c.tmod g.co - 1)+(j:Int))]:=by rw[rP,Xu hb]
 rw[Yr,<-e];obtain⟨t,ht⟩:=Ij (g:=g) (c:=c) (r:=max 0 (c.tdiv g.co - 1)+(i:Int)) (show j+1<=Pj g c by omega);refine List.IsPrefix.trans ?_ (Im (show i+1<=Il g c by omega));rw[wR,<-ht,<-Yr];exact Y7 _ _
def am0(n:Int):List D:=[.v (.int .i64 n)]
theorem We{g:iZ}(hg:kG g){c:Int}(h1:0<=c){i:Nat}(hi:(max 0 (c.tdiv g.co - 1)+(i:Int))<=g.ro - 1):0<=(max 0 (c.tdiv g.co - 1)+(i:Int))*g.co/\(max 0 (c.tdiv g.co - 1)+(i:Int))*g.co<=1600:=by
 have c1:=hg.c1;have c2:=hg.c2;have r2:=hg.r2;have h:=lX (a:=max 0 (c.tdiv g.co - 1)+(i:Int)) (b:=g.co) (A:=40) (B:=40) (by omega) (by omega) (by omega) (by omega);have:=X2 (show 0<=max 0 (c.tdiv g.co - 1)+(i:Int) by omega) (show 0<=g.co by omega);omega
theorem OA(g:iZ)(pw:List Int)(ce:Int)(h:OS g pw)(h1:0<=ce)(h2:ce<=10000):PI qP 135 [] [.pt [.v (.int .i64 (ce))] 0,.pt (NA g pw) 0] (am0) (Gq g ce (Il g ce)) true:=by
 have hg:=h.gr;have hgg:=hg;have⟨x1,x2,z1,z2,c1,c2,r1,r2,s1,s2⟩:=hgg;have⟨m1,m2⟩:=mG h1 c1;have⟨d1,d2⟩:=mH h1 c1;have hM:Il g ce=(min (g.ro - 1) (ce.tdiv g.co+1) - max 0 (ce.tdiv g.co - 1)+1).toNat:=rfl;have hN:Pj g ce=(min (g.co - 1) (ce.tmod g.co+1) - max 0 (ce.tmod g.co - 1)+1).toNat:=rfl;refine sC (qA func135 E) E ntmps135 E E λV' c l0 hJ hy AD qL=>?_;refine cG ?_;apply dC hJ
 ·intro c1 bQ cH;refine xa 14 (V (aj mF E E) (V (af lG E) (V (af fT E) (V (af fA E) (V (aj mF E E) (V (yo E E (by omega)) (V (aj mF E E) (V (af lG E) (V (af fT E) (V (af fA E) (V (aj mF E E) ?_)))))))))));refine V (B5 E E (by omega) xi) (V aA (V aA (rn ?_)));exact⟨rfl,rfl⟩
 change iw _ _ _ _ _ _ _;refine cG ?_;apply dC hJ
 ·intro c1 bQ cH;refine xa 4 (V aF ?_);refine V (dk E E xi) (V (vg E E) (V aA (rn ?_)));exact⟨rfl,rfl⟩
 change iw _ _ _ _ _ _ _;refine fo ?_;refine lD [6,7,8,24,25,26,27,28,29,30,31,32,33,34,35,36,37,38,39,40,41,42,43,44,45,46,47,48,49,50,51,52,53,54,55,56,57,58,59,60,61,62,63,64,65,66,67] [] (β:=Nat) (λi=>[(6,T.i (max 0 (ce.tdiv g.co - 1)+(i:Int)))]) (λi=>[]) (λi=>(true,Gq g ce i)) (λi=>i<=Il g ce) (λi=>Il g ce - i) 0 (XC _) E (λc1=>?_) ?_
 ·exact xh (ms:=[]) (by repeat (exact Out.refl _)) ⟨(by (show T.i _=T.i _;congr 1;omega)),trivial⟩ trivial
 ·intro i hi;refine cG ?_;refine cG ?_;apply dC hJ
  ·intro c1 bQ cH;refine xa 10 (V aF (V (af lG E) (V (af fT E) (V (af l8 E) (V (aj mF E E) ?_)))));refine V (dk E E xi) (V aF ?_);refine V (lE E E xi) (V (tx E E) (V (iG E E) (rn ?_)));exact⟨rfl,rfl⟩
  change iw _ _ _ _ _ _ _;refine gR E (λbV=>?_) (λbV=>?_)
  ·(try simp only[nb,Xv]at bV);have bH:i<Il g ce:=by omega
   obtain⟨hp1,hp2⟩:=We hg h1 (i:=i) (by omega);refine gQ ?_;change iw _ _ _ _ _ _ _;refine cG ?_;refine fo ?_;refine cG ?_;apply dC hJ
   ·intro c1 bQ cH;refine xa 4 (V aF ?_);refine V (dk E E xi) (V (vg E E) (V aA (rn ?_)));exact⟨rfl,rfl⟩
   change iw _ _ _ _ _ _ _;refine fo ?_;refine lD [7,8,39,40,41,42,43,44,45,46,47,48,49,50,51,52,53,54,55,56,57,58,59,60,61,62,63,64,65,66,67] [] (β:=Nat) (λj=>[(7,T.i (max 0 (ce.tmod g.co - 1)+(j:Int)))]) (λj=>[]) (λj=>(true,Gq g ce i++Ik g ce (max 0 (ce.tdiv g.co - 1)+(i:Int)) j)) (λj=>j<=Pj g ce) (λj=>Pj g ce - j) 0 (XC _) (by show (true,_++Ik g ce _ 0)=(true,_);simp[Ik]) (λc1=>?_) ?_
   ·exact xh (ms:=[]) (by repeat (exact Out.refl _)) ⟨(by (show T.i _=T.i _;congr 1;omega)),trivial⟩ trivial
   ·intro j hj;refine cG ?_;refine cG ?_;apply dC hJ
    ·intro c1 bQ cH;refine xa 10 (V aF (V (af lG E) (V (af fT E) (V (af fA E) (V (aj mF E E) ?_)))));refine V (dk E E xi) (V aF ?_);refine V (lE E E xi) (V (tx E E) (V (iG E E) (rn ?_)));exact⟨rfl,rfl⟩
    change iw _ _ _ _ _ _ _;refine gR E (λeU=>?_) (λeU=>?_)
    ·(try simp only[nb,Xv]at eU);have hlj:j<Pj g ce:=by omega
     refine gQ ?_;change iw _ _ _ _ _ _ _;refine cG ?_;refine fo ?_;refine cG ?_;apply dC hJ
     ·intro c1 bQ cH;refine xa 9 (V aF (V (af lG E) (V (af fT E) (V (af fA E) (V (aj mF E E) ?_)))));refine V (cZ E E xi) (V aF ?_);refine V (lE E E xi) (V aA (rn ?_));exact⟨rfl,rfl⟩
     change iw _ _ _ _ _ _ _;refine cG ?_;refine vG ?_;refine en hJ E (λc1 _ _ _ h=>by exact aN E (aF) h) ?_;refine en hJ E (λc1 _ _ _ h=>by exact aN E ((aj mF E E)) h) ?_;refine en hJ E (λc1 _ _ _ h=>by exact aN E ((bS E E)) h) ?_;refine en hJ E (λc1 _ _ _ h=>by exact aN E (aF) h) ?_;rcases Bool.eq_false_or_eq_true (decide ((max 0 (ce.tdiv g.co - 1)+(i:Int))*g.co+(max 0 (ce.tmod g.co - 1)+(j:Int))≠ce)) with hb|hb
     ·refine FM hJ E (congrArg T.bool hb) E (by intro d J;cases J;exact(by decide:(63:Nat)<68)) (λc1=>((aq (x:=.d (.fn _ _)) E))) ?_;refine FM hJ E (congrArg T.bool hb) E (by intro d J;cases J;exact(by decide:(64:Nat)<68)) (λc1=>(aF)) ?_;refine Cy (x:=(max 0 (ce.tdiv g.co - 1)+(i:Int))*g.co+(max 0 (ce.tmod g.co - 1)+(j:Int))) E (congrArg T.bool hb) E hy AD E (.cons E .nil) (Wd bH hlj hb) E (λyb=>?_);refine FM hJ E (congrArg T.bool hb) E (by intro d J;cases J;exact(by decide:(66:Nat)<68)) (λc1=>((bX E))) ?_;refine en hJ E (λc1 _ _ _ h=>by exact aN E ((Ux E E E)) h) ?_;refine qF ?_;change iw _ _ _ _ _ _ _;refine gR E (λoM=>?_) (λoM=>?_)
      ·(try simp only[nb,Xv]at oM);have HO:yb=false:=by cases yb<;>first|rfl|(exfalso;simp_all;done)
       refine Ao ?_;exact⟨.inl E,λh=>by rw[HO]at h;cases h⟩
      ·(try simp only[nb,Xv]at oM);have HO:yb=true:=by cases yb<;>first|rfl|(exfalso;simp_all;done)
       refine gQ ?_;change iw _ _ _ _ _ _ _;apply dC hJ
       ·intro c1 bQ cH;refine xa 3 (V aF ?_);refine V (lE E E xi) (V aA (rn ?_));exact⟨rfl,rfl⟩
       refine⟨j+1,by omega,by omega,by rw[HO,rP,Xu hb,Yr],λc1=>?_⟩;exact xh (ms:=[]) (by repeat (first|exact Out.head E E|(refine Out.put ?_ E))) ⟨(by (show T.i _=T.i _;congr 1;omega)),trivial⟩ trivial
     ·refine n5 (g:=false) (b:=true) E E (congrArg T.bool hb) E E (by intro d J;cases J;exact(by decide:(63:Nat)<68)) ?_;refine n5 (g:=false) (b:=true) E E (congrArg T.bool hb) E E (by intro d J;cases J;exact(by decide:(64:Nat)<68)) ?_;refine n5 (g:=false) (b:=true) E E (congrArg T.bool hb) E E (by intro d J;cases J;exact(by decide:(65:Nat)<68)) ?_;refine n5 (g:=false) (b:=true) E E (congrArg T.bool hb) E E (by intro d J;cases J;exact(by decide:(66:Nat)<68)) ?_;refine en hJ E (λc1 _ _ _ h=>by exact aN E (Qe (congrArg T.bool hb) E) h) ?_;refine qF ?_;change iw _ _ _ _ _ _ _;refine gR E (λoM=>?_) (λoM=>?_)
      ·exfalso;(try simp only[nb,Xv]at oM);simp_all
      ·(try simp only[nb,Xv]at oM);refine gQ ?_;change iw _ _ _ _ _ _ _;apply dC hJ
       ·intro c1 bQ cH;refine xa 3 (V aF ?_);refine V (lE E E xi) (V aA (rn ?_));exact⟨rfl,rfl⟩
       refine⟨j+1,by omega,by omega,by rw[rP,Xr (by rw[hb];decide),ZL],λc1=>?_⟩;exact xh (ms:=[]) (by repeat (first|exact Out.head E E|(refine Out.put ?_ E))) ⟨(by (show T.i _=T.i _;congr 1;omega)),trivial⟩ trivial
    ·(try simp only[nb,Xv]at eU);have M4:j=Pj g ce:=by omega
     refine m6 ?_;change iw _ _ _ _ _ _ _;apply dC hJ
     ·intro c1 bQ cH;refine xa 3 (V aF ?_);refine V (lE E E xi) (V aA (rn ?_));exact⟨rfl,rfl⟩
     refine⟨i+1,by omega,by omega,by rw[M4,wR],λc1=>?_⟩;exact xh (ms:=[]) (by repeat (first|exact Out.head E E|(refine Out.put ?_ E)|(refine Out.sN ?_ E E E))) ⟨(by (show T.i _=T.i _;congr 1;omega)),trivial⟩ trivial
  ·(try simp only[nb,Xv]at bV);have qK:i=Il g ce:=by omega
   refine m6 ?_;exact⟨.inr E,λ_=>by rw[qK]⟩
theorem Wf{g:iZ}(hg:kG g){c:Int}(h1:0<=c){n:Int}(h:n∈Gq g c (Il g c)):0<=n/\n<g.co*g.ro:=by
 have c1:=hg.c1;have r1:=hg.r1;unfold Gq at h;obtain⟨p,hp,h⟩:=List.mem_flatMap.1 h;unfold Ik at h;obtain⟨h,_⟩:=List.mem_filter.1 h;obtain⟨q,hq,rfl⟩:=X6.1 h;have hp:=YJ.1 hp;have hq:=YJ.1 hq;have hM:Il g c=(min (g.ro - 1) (c.tdiv g.co+1) - max 0 (c.tdiv g.co - 1)+1).toNat:=rfl;have hN:Pj g c=(min (g.co - 1) (c.tmod g.co+1) - max 0 (c.tmod g.co - 1)+1).toNat:=rfl;generalize Y:max 0 (c.tdiv g.co - 1)+(p:Int)=r at *;have e1:0<=r/\r<=g.ro - 1:=by omega
 have e2:=X2 e1.1 (show 0<=g.co by omega);have e3:=Y8 e1.2 (show 0<=g.co by omega);rw[Int.sub_mul,Int.one_mul,Int.mul_comm g.ro g.co]at e3;omega
theorem iB{α:Type}{l:List α}{k:Nat}{y:α}(h:l[k]?=some y):l.take (k+1)=l.take k++[y]:=by
 obtain⟨bH,rfl⟩:=Xt.1 h;rw[Yh bH]
theorem RO{α:Type}{p:α->Bool}{l:List α}{y:α}(h:l.any p=false)(hy:p y=false):(l++[y]).any p=false:=by rw[List.any_append,h];simp[hy]
def OY(pw:List Int)(n:Int):Int:=pw.getD n.toNat 0
def Ww(pw:List Int)(c n:Int):Bool:=decide (OY pw c<OY pw n)||(decide (n<c)&&decide (OY pw n=OY pw c))
def Qn(g:iZ)(pw:List Int)(c:Int):Bool:=!(Gq g c (Il g c)).any (Ww pw c)&&decide (0<OY pw c)
theorem Lx{pw:List Int}{n:Int}(h1:0<=n)(h2:n<(pw.length:Int)):pw[n.toNat]?=some (OY pw n):=by
 unfold OY;rw[X1,Xp (by omega)];rfl
theorem ME(g:iZ)(pw:List Int)(c:Int)(h:OS g pw)(h1:0<=c)(h2:c<(pw.length:Int)):PC qP 59 [.agg (NA g pw),.v (.int .i64 (c))] (.v (.bool (Qn g pw c))):=by
 have hg:=h.gr;have yO:=dg hg;have hlen:=h.len;have Bm:=Lx h1 h2;refine aY (qA func59 E) E ntmps59 results59 λw0 bQ cH iK=>ae (xa 2 (V (aP E H') (V (aP E E') (aw (bL zr4 E E E (ai (xq (xa 5 (V (af rh E) (V (aj pn E E) (V (aj mF E E) (V (aJ gK E E (by omega) (cm (k:=c.toNat) (by omega) Bm)) (V (aj mF E E) (aw (bL Br E E E (ay mF E E E' E E (by decide) E (ai (xq (ae (xa 3 (V (ax (ds:=[_,_,_,_,_,_]) mh E E E) (V (aj mF E E) (V (ak ar1 (.cons E (.cons E .nil)) E (Oz _ _ _)) (xc (az (dG.le (nZ 5 5 0 (cs:=iC (OY pw c)) E E E E bQ) ?_))))))))))))))))))))))))));refine nE (α:=Int) (β:=Nat) (n:=39) (enc:=am0) (items:=Gq g c (Il g c)) 1000 [(2,.d (.pt (NA g pw) 0)),(3,.d (.pt [.v (.int .i64 (c))] 0)),(4,.ref 4 0),(5,.d (.pt [.v (.int .i64 (OY pw c))] 0)),(14,.d (.fn (.func 135) [.pt [.v (.int .i64 (c))] 0,.pt (NA g pw) 0]))] (λx=>[(4,.box [.v (.bool (false))])]) (λk x=>x=k/\((Gq g c (Il g c)).take k).any (Ww pw c)=false) (λe x=>e=Exit.ret/\Qn g pw c=false) 0 cH ?_ (.inr ⟨rfl,rfl⟩) ap9 (OA g pw c h h1 (by omega)) E (λ_=>rfl) E (λx=>qV (gS (og (by repeat first|exact trivial|refine⟨.v _,?_⟩)) uE)) (λ_=>rfl) ⟨rfl,rfl⟩ (λh=>by cases h) ?_ ?_ ?_
 ·exact Ld (λk=>k) _ _ E ⟨rfl,rfl,rfl,rfl,rfl,trivial⟩ ⟨rfl,trivial⟩ E (λk b h=>by rw[iK k]at h;cases h)
 ·intro w1 tX k x y hI hy;obtain⟨rfl,hf⟩:=hI;have⟨hy1,hy2⟩:=Wf hg h1 (XA hy);have hya:=Lx (pw:=pw) hy1 (by omega);refine xa 1 (V aA (rn ?_));refine⟨rfl,λw2 tW=>?_⟩;refine az (ae (xa 21 (V (af rh E) (V (aj pn E E) (V aF (V (aJ gK E E (by omega) (cm (k:=y.toNat) (by omega) hya)) (V (aj mF E E) (V (aj mF E E) (V (gM E E) (V aF (aE E E (λhG=>aF) (aE E E (λhG=>(aj mF E E)) (aE E E (λhG=>(cM E E)) (aE E E (λhG=>aF) (aE E E (λhG=>(af rh E)) (aE E E (λhG=>(aj pn E E)) (aE E E (λhG=>aF) ?_)))))))))))))))));refine aE E E (λhG=>(aJ gK E E (by (have iR:=T.cP (a:=_) hG.1;(try simp only[nb,Xv]at iR);have O9:=T.cP (a:=_) hG.2.1;(try simp only[nb,Xv]at O9);omega)) (cm (k:=y.toNat) (by (have iR:=T.cP (a:=_) hG.1;(try simp only[nb,Xv]at iR);have O9:=T.cP (a:=_) hG.2.1;(try simp only[nb,Xv]at O9);omega)) hya))) (aE E E (λhG=>(aj mF E E)) (aE E E (λhG=>(aj mF E E)) (aE E E (λhG=>(fG E E)) (vb E E E E E E E E ?_))));refine aT E E E E E E ?_;refine xc (ao E (λeJ=>?_) (λeJ=>?_))
  ·(try simp only[nb,Xv]at eJ);have hb:Ww pw c y=true:=by unfold Ww;(simp;omega)
   have Aw:Qn g pw c=false:=by unfold Qn;rw[List.any_eq_true.2 ⟨y,XA hy,hb⟩];rfl
   refine ae (xa 0 (aw (ay sz4 E E E' E E (by decide) E (ai ?_))));change dG _ _ _ _ _;refine ah (.inr ⟨rfl,x,⟨rfl,Aw⟩,?_⟩);exact jA [] _ tW E ⟨(by rfl),trivial⟩ E
  ·(try simp only[nb,Xv]at eJ);have hb:Ww pw c y=false:=by unfold Ww;(simp;omega)
   refine wO ?_;refine .inl ⟨rfl,x+1,⟨rfl,by rw[iB hy];exact RO hf hb⟩,?_⟩;exact jA [] _ tW E ⟨(by rfl),trivial⟩ E
 ·intro x hI;have⟨W4,hf⟩:=hI;rw[YL]at hf;have hz:Qn g pw c=decide (0<OY pw c):=by unfold Qn;rw[hf];rfl
  change dG _ _ _ _ _;refine ae (xa 2 (V (aj mF E E) (V (gM E E) (aw (ay sz4 E E E' E E (by decide) E (ai ?_))))));change dG _ _ _ _ _;refine ah ?_;refine⟨_,(.cons (.cell1 E E sz4) .nil),?_⟩;rw[hz];rfl
 ·rintro e x (⟨rfl,hX⟩)
  ·refine⟨_,(.cons (.cell1 E E sz4) .nil),?_⟩;rw[hX];rfl
def sT(p:Int->Bool)(n:Nat):List Int:=(gY n).filter p
theorem y1{p:Int->Bool}{k:Nat}:sT p (k+1)=sT p k++(if p (k:Int)=true then [(k:Int)] else []):=by
 unfold sT;rw[zd,List.filter_append];congr 1;by_cases h:p (k:Int)=true
 ·rw[Xu h];simp[h]
 ·rw[Xr h];simp[h]
theorem N9{p:Int->Bool}{k:Nat}:(sT p k).length<=k:=by
 have:=List.length_filter_le p (gY k);unfold sT;rw[rQ]at this;exact this
theorem N8(g:iZ)(pw:List Int)(p:Int->Bool)(fn:ϋ)(cap:List D)(Vm:cA qP fn=true)(hl:pw.length<=1600)(hp:∀n:Nat,n<pw.length->PC qP fn (cap++[.v (.int .i64 ((n:Int)))]) (.v (.bool (p n)))):PC qP 58 [.agg (NA g pw),.vB (.func fn) cap] (.sl 1 ((sT p pw.length).map iC)):=by
 refine aY (qA func58 E) E ntmps58 results58 λw0 bQ cH iK=>ae (xa 2 (V (aP E H') (V (aG (x:=.d (.sl _ _)) E) (rs (xa 1 (V (fP) (rn ?_)))))));change dG _ _ _ _ _;refine dG.le (sI (k:=5) (e:=3) (sz:=1) E E) ?_;refine ae (ae (xa 4 (V (af rh E) (V (aj pn E E) (V (cd iX E (by exact aV _ _)) (V aF (xc (bm (t:=8) E (λMW=>?_)))))))));(try simp only[Xo]at MW);refine az (bG [5,6,10,11,12,13,14,15,16,17,18,19,20] [5] (α:=Nat) (λk=>[(10,T.i (k:Int)),(5,.rs 5)]) (λk=>[(5,.row 3 1 ((sT p k).map iC))]) (λk=>k<=pw.length) (λk=>pw.length - k) 0 (XC _) ?_ ?_)
 ·exact xh (ms:=[5]) (by repeat (exact Out.refl _)) ⟨(by rfl),(by rfl),trivial⟩ ⟨(by rfl),trivial⟩
 ·intro k hk;have hal:=N9 (p:=p) (k:=k);refine ae (xa 1 (V (cM E E) (rs (ao E (λdB=>?_) (λdB=>?_)))))
  ·(try simp only[nb,Xv]at dB);have bH:k<pw.length:=by omega
   refine wO ?_;change dG _ _ _ _ _;refine ae (az (ae (xa 2 (V aF (V aA (rs (xa 3 (V (aq (x:=.d (.vB _ _)) E) (V aF (V (Qh Vm E (.cons E .nil) ((hp k bH))) (xc (ao E (λeU=>?_) (λeU=>?_)))))))))))))
   ·(try simp only[nb,Xv]at eU);have tY:(sT p (k+1)).map iC=(sT p k).map iC++[[.v (.int .i64 (k:Int))]]:=by rw[y1,Xu eU,Yw];rfl
    refine xa 3 (V (aq (x:=.rs _) E) (V aF (V (bu gK Br E E (by decide) (.cons E E' .nil) ⟨rfl,rfl,trivial⟩ E (by decide) E) (aw ?_))));refine eX gK Br by3 E (by decide) E E E E (by (try simp only[Xo,XI,XH,XL]);omega) (by (try simp only[Xo,XI,XH,XL]);omega) E E ?_;refine aN E (aG (x:=.rs _) E) (ai ?_);change dG _ _ _ _ _;refine xa 2 ?_;refine V (lE E E xi) (V aF (rn ?_));refine⟨k+1,by omega,by omega,?_⟩;exact xh (ms:=[5]) (by repeat (first|exact Out.head E E|(refine Out.put ?_ E)|(refine Out.site ?_ E)|(refine Out.dE ?_ E))) ⟨(by rfl),(by rfl),trivial⟩ ⟨(by ((show aH.row 3 1 _=aH.row 3 1 _;(rw[tY];rfl)))),trivial⟩
   ·(try simp only[nb,Xv]at eU);have tY:(sT p (k+1)).map iC=(sT p k).map iC:=by rw[y1,Xr (by rw[eU];decide),ZL]
    refine wO ?_;change dG _ _ _ _ _;refine xa 2 ?_;refine V (lE E E xi) (V aF (rn ?_));refine⟨k+1,by omega,by omega,?_⟩;exact xh (ms:=[5]) (by repeat (first|exact Out.head E E|(refine Out.put ?_ E))) ⟨(by rfl),(by rfl),trivial⟩ ⟨(by ((show aH.row 3 1 _=aH.row 3 1 _;(rw[tY];done)))),trivial⟩
  ·(try simp only[nb,Xv]at dB);have vP:k=pw.length:=by omega
   subst vP;refine bJ ?_;change dG _ _ _ _ _;refine ae (xa 2 (V (aq (x:=.rs _) E) (V (aG (x:=.rs _) E) (xc (ah ?_)))));refine⟨_,(.cons (.tmp (by exact .rs E)) .nil),?_⟩;rfl
theorem Qt(g:iZ)(pw:List Int):(L1 g pw).length=6:=by
 unfold L1
 split
 ·rfl
 ·split<;>rfl
def pz(g:iZ)(pw:List Int):List Int × Int:=if Ja g pw≠0 then ([],Ja g pw) else (sT (Qn g pw) pw.length,0)
theorem Qo(g:iZ)(pw:List Int):PC qP 22 [.agg (qO g),.sl 1 (pw.map iC)] (.da [.sl 1 ((pz g pw).1.map iC),.v (.int .i64 ((pz g pw).2))]):=by
 refine aY (qA func22 E) E ntmps22 results22 λw0 bQ cH iK=>ae (xa 3 (V (aP E H') (V (aG (x:=.d (.sl _ _)) E) (V aA (rs (xa 6 (V (ax (ds:=[_,_,_,_,_]) mI E E E) (V (aq (x:=.d (.sl _ _)) E) (V (ak aD9 (.cons E (.cons E .nil)) E (Cg _ _)) (V (aq (x:=.d (.da _)) E) (V (au E E) (V (au E E) (aw (dF xO E mh E E H' (Qt g pw) E (aN E aA (ai (xq (ae (xa 2 (V aF (V (bS E E) (xc (ao E (λbV=>?_) (λbV=>?_))))))))))))))))))))))))
 ·(try simp only[nb,Xv]at bV);have hz:pz g pw=([],Ja g pw):=by unfold pz;rw[Xu bV]
  refine ae (xa 3 (V aF (V (aG (x:=.d (.sl _ _)) E) (V aA (xc (ah ?_))))));refine⟨_,gz,?_⟩;rw[hz];rfl
 ·(try simp only[nb,Xv]at bV);have h0:Ja g pw=0:=by simpa using bV
  have⟨hfk,Vj⟩:=af6 h0;have yO:=dg hfk.gr;have hlen:=hfk.len;have hz:pz g pw=(sT (Qn g pw) pw.length,0):=by unfold pz;rw[Xr (λq=>q h0)]
  rw[Vj];refine wO ?_;change dG _ _ _ _ _;refine ae (xa 6 (V (ax (ds:=[_,_,_,_,_,_]) mh E E E) (V (ax (ds:=[_,_,_,_,_,_]) mh E E E) (V (I0 (.cons E .nil)) (V (ak aD8 (.cons E (.cons E .nil)) E (N8 g pw (Qn g pw) 59 [.agg (NA g pw)] aD7 (by omega) (λn hn=>ME g pw n hfk (by omega) (by omega)))) (V (aG (x:=.d (.sl _ _)) E) (V aA (xc (ah ?_)))))))));refine⟨_,gz,?_⟩;rw[hz];rfl
theorem two(i:Nat)(h:i<2):i=0\/i=1:=by omega
end
end Go.Proofs.YthcfokccjljnpaaGreat.Am.M
