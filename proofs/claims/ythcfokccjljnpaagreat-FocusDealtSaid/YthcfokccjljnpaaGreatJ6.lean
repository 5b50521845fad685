/- Contracts over the abstract machine, and the crowd of workers. Conditions: none. -/
import Derived.ChangeKeysEq
import Derived.Laws.FloatArith
import Derived.Laws.ComplexArith
import Derived.WalkKit
import Derived.Lib.Mul64
import Derived.Laws.Bits64b
import Derived.Test.YthcfokccjljnpaaGreatJ5
import Derived.Test.YthcfokccjljnpaaGreatJ3
import Derived.Test.YthcfokccjljnpaaGreatJ4
set_option linter.unusedVariables false
set_option linter.unusedSimpArgs false
set_option linter.unusedSectionVars false
set_option maxRecDepth 100000
namespace Go.Proofs.YthcfokccjljnpaaGreat.Am
section
open Go
theorem mixed:qP.follows .mixedOrders=true:=by kernel_rfl
theorem xa{w0:Cx}{st:St}{l:List Oper}{id:Nat}{draw:Bool}{R:Exit->St->Prop}(n:Nat)(hW:RegW qP w0 st l n (l.take n) 0 (λ_=>.dead) st (λst'=>Aops qP w0 l (l.drop n) R st'))(h:(regB l n st.n&&decide (n≤l.length)&&(!draw||tailOk l n))=true:=by kernel_rfl):Awp qP w0 (.region id l.toArray draw) R st:=ca n mixed h hW
theorem en5:cA qP 5=true:=by kernel_rfl
theorem en6:cA qP 6=true:=by kernel_rfl
theorem en7:cA qP 7=true:=by kernel_rfl
theorem en9:cA qP 9=true:=by kernel_rfl
theorem aF5:cA qP 10=true:=by kernel_rfl
theorem aF4:cA qP 11=true:=by kernel_rfl
theorem aF3:cA qP 12=true:=by kernel_rfl
theorem aF2:cA qP 13=true:=by kernel_rfl
theorem VN:cA qP 14=true:=by kernel_rfl
theorem aF1:cA qP 15=true:=by kernel_rfl
theorem aF0:cA qP 19=true:=by kernel_rfl
theorem aE9:cA qP 22=true:=by kernel_rfl
theorem aE8:cA qP 23=true:=by kernel_rfl
theorem aE7:cA qP 24=true:=by kernel_rfl
theorem aE6:cA qP 25=true:=by kernel_rfl
theorem an4:cA qP 26=true:=by kernel_rfl
theorem aE5:cA qP 27=true:=by kernel_rfl
theorem VM:cA qP 28=true:=by kernel_rfl
theorem an3:cA qP 29=true:=by kernel_rfl
theorem aE4:cA qP 30=true:=by kernel_rfl
theorem JD:cA qP 31=true:=by kernel_rfl
theorem aE3:cA qP 35=true:=by kernel_rfl
theorem F4:cA qP 37=true:=by kernel_rfl
theorem an2:cA qP 38=true:=by kernel_rfl
theorem an1:cA qP 39=true:=by kernel_rfl
theorem aE2:cA qP 40=true:=by kernel_rfl
theorem aE1:cA qP 41=true:=by kernel_rfl
theorem nA:cA qP 42=true:=by kernel_rfl
theorem aE0:cA qP 43=true:=by kernel_rfl
theorem VL:cA qP 44=true:=by kernel_rfl
theorem an0:cA qP 45=true:=by kernel_rfl
theorem NK:cA qP 50=true:=by kernel_rfl
theorem aD9:cA qP 57=true:=by kernel_rfl
theorem aD8:cA qP 58=true:=by kernel_rfl
theorem aD7:cA qP 59=true:=by kernel_rfl
theorem am9:cA qP 60=true:=by kernel_rfl
theorem am8:cA qP 61=true:=by kernel_rfl
theorem am7:cA qP 62=true:=by kernel_rfl
theorem aD6:cA qP 63=true:=by kernel_rfl
theorem am6:cA qP 64=true:=by kernel_rfl
theorem aD5:cA qP 65=true:=by kernel_rfl
theorem am5:cA qP 66=true:=by kernel_rfl
theorem am4:cA qP 67=true:=by kernel_rfl
theorem pO:cA qP 68=true:=by kernel_rfl
theorem aD4:cA qP 69=true:=by kernel_rfl
theorem am3:cA qP 71=true:=by kernel_rfl
theorem aD3:cA qP 72=true:=by kernel_rfl
theorem aD2:cA qP 73=true:=by kernel_rfl
theorem aD1:cA qP 92=true:=by kernel_rfl
theorem aD0:cA qP 93=true:=by kernel_rfl
theorem aC9:cA qP 94=true:=by kernel_rfl
theorem aC8:cA qP 95=true:=by kernel_rfl
theorem am2:cA qP 96=true:=by kernel_rfl
theorem am1:cA qP 97=true:=by kernel_rfl
theorem yZ:cA qP 102=true:=by kernel_rfl
theorem NT:cA qP 104=true:=by kernel_rfl
theorem ar3:cA qP 105=true:=by kernel_rfl
theorem ar2:cA qP 106=true:=by kernel_rfl
theorem ar1:cA qP 107=true:=by kernel_rfl
theorem ar0:cA qP 108=true:=by kernel_rfl
theorem Tu:cA qP 109=true:=by kernel_rfl
theorem aq9:cA qP 110=true:=by kernel_rfl
theorem Tt:cA qP 111=true:=by kernel_rfl
theorem aq8:cA qP 112=true:=by kernel_rfl
theorem Du:cA qP 113=true:=by kernel_rfl
theorem NS:cA qP 114=true:=by kernel_rfl
theorem NR:cA qP 115=true:=by kernel_rfl
theorem aq7:cA qP 116=true:=by kernel_rfl
theorem aq6:cA qP 117=true:=by kernel_rfl
theorem aq5:cA qP 118=true:=by kernel_rfl
theorem aq4:cA qP 119=true:=by kernel_rfl
theorem aq3:cA qP 125=true:=by kernel_rfl
theorem Ts:cA qP 126=true:=by kernel_rfl
theorem aq2:cA qP 127=true:=by kernel_rfl
theorem aq1:cA qP 128=true:=by kernel_rfl
theorem NQ:cA qP 129=true:=by kernel_rfl
theorem Tr:cA qP 133=true:=by kernel_rfl
theorem aq0:cA qP 134=true:=by kernel_rfl
theorem ap9:cA qP 135=true:=by kernel_rfl
theorem ap8:cA qP 136=true:=by kernel_rfl
theorem ap7:cA qP 137=true:=by kernel_rfl
theorem ap6:cA qP 138=true:=by kernel_rfl
theorem ap5:cA qP 139=true:=by kernel_rfl
theorem Tq:cA qP 140=true:=by kernel_rfl
theorem ap4:cA qP 141=true:=by kernel_rfl
theorem NP:cA qP 142=true:=by kernel_rfl
theorem Tp:cA qP 143=true:=by kernel_rfl
theorem Dt:cA qP 144=true:=by kernel_rfl
theorem Ds:cA qP 145=true:=by kernel_rfl
theorem ap3:cA qP 146=true:=by kernel_rfl
theorem ap2:cA qP 147=true:=by kernel_rfl
theorem ap1:cA qP 148=true:=by kernel_rfl
theorem To:cA qP 149=true:=by kernel_rfl
theorem ap0:cA qP 150=true:=by kernel_rfl
theorem Tn:cA qP 151=true:=by kernel_rfl
theorem ao9:cA qP 153=true:=by kernel_rfl
theorem ao8:cA qP 154=true:=by kernel_rfl
theorem ao7:cA qP 155=true:=by kernel_rfl
theorem NO:cA qP 156=true:=by kernel_rfl
theorem NN:cA qP 157=true:=by kernel_rfl
theorem Tl:cA qP 158=true:=by kernel_rfl
theorem NM:cA qP 159=true:=by kernel_rfl
theorem Tj:cA qP 160=true:=by kernel_rfl
theorem Ti:cA qP 161=true:=by kernel_rfl
theorem Dr:cA qP 162=true:=by kernel_rfl
theorem yY:cA qP 163=true:=by kernel_rfl
theorem ao6:cA qP 164=true:=by kernel_rfl
theorem Th:cA qP 165=true:=by kernel_rfl
theorem Tg:cA qP 166=true:=by kernel_rfl
theorem H5:cA qP 167=true:=by kernel_rfl
theorem Tf:cA qP 168=true:=by kernel_rfl
theorem ao5:cA qP 169=true:=by kernel_rfl
theorem ao4:cA qP 170=true:=by kernel_rfl
theorem Te:cA qP 171=true:=by kernel_rfl
theorem ao3:cA qP 172=true:=by kernel_rfl
theorem Dq:cA qP 173=true:=by kernel_rfl
theorem ao2:cA qP 174=true:=by kernel_rfl
theorem NL:cA qP 175=true:=by kernel_rfl
theorem Td:cA qP 176=true:=by kernel_rfl
theorem Tc:cA qP 177=true:=by kernel_rfl
theorem Tb:cA qP 178=true:=by kernel_rfl
theorem ao1:cA qP 179=true:=by kernel_rfl
theorem ao0:cA qP 180=true:=by kernel_rfl
theorem Ta:cA qP 181=true:=by kernel_rfl
theorem S9:cA qP 182=true:=by kernel_rfl
theorem an9:cA qP 183=true:=by kernel_rfl
theorem S8:cA qP 184=true:=by kernel_rfl
theorem an8:cA qP 185=true:=by kernel_rfl
theorem an7:cA qP 186=true:=by kernel_rfl
theorem an6:cA qP 187=true:=by kernel_rfl
theorem an5:cA qP 188=true:=by kernel_rfl
theorem bo:szB qP 3 false 1=true:=by kernel_rfl
theorem by3:Ey qP 3 8=true:=by kernel_rfl
theorem Br:eC qP 3 (.int .i64 0):=by unfold eC;kernel_rfl
theorem l4:vH qP 3 .i64=true:=by kernel_rfl
theorem sz4:szB qP 4 false 1=true:=by kernel_rfl
theorem zr4:eC qP 4 (.bool false):=by unfold eC;kernel_rfl
theorem jP:szB qP 22 false 1=true:=by kernel_rfl
theorem xg:slB qP 22 33 2=true:=by kernel_rfl
theorem kA:tV qP 22=true:=by kernel_rfl
theorem lh:szB qP 24 true 4=true:=by kernel_rfl
theorem Xh:eC qP 24 (.agg #[.int .i64 0,.int .i64 0,.int .i64 0,.int .i64 0]):=by unfold eC;kernel_rfl
theorem AL:fldB qP 24 0 0=true:=by kernel_rfl
theorem AK:fldB qP 24 1 1=true:=by kernel_rfl
theorem rf:fldB qP 24 2 2=true:=by kernel_rfl
theorem fD:fldB qP 24 3 3=true:=by kernel_rfl
theorem av8:uu qP 24 [(0,1),(1,1),(2,1),(3,1)]=true:=by kernel_rfl
theorem ab4:szB qP 26 true 2=true:=by kernel_rfl
theorem at5:eC qP 26 (.agg #[.int .i64 0,.int .i64 0]):=by unfold eC;kernel_rfl
theorem AJ:fldB qP 26 0 0=true:=by kernel_rfl
theorem uF:fldB qP 26 1 1=true:=by kernel_rfl
theorem av7:uu qP 26 [(0,1),(1,1)]=true:=by kernel_rfl
theorem po:szB qP 28 true 11=true:=by kernel_rfl
theorem Xe:eC qP 28 (.agg #[.slice none 0 0,.int .i64 0,.int .i64 0,.int .i64 0,.int .i64 0,.int .i64 0,.int .i64 0,.int .i64 0,.int .i64 0,.int .i64 0,.int .i64 0]):=by unfold eC;kernel_rfl
theorem du:fldB qP 28 0 0=true:=by kernel_rfl
theorem iA:fldB qP 28 1 1=true:=by kernel_rfl
theorem om:fldB qP 28 2 5=true:=by kernel_rfl
theorem q9:fldB qP 28 3 9=true:=by kernel_rfl
theorem av6:uu qP 28 [(0,1),(1,4),(5,4),(9,2)]=true:=by kernel_rfl
theorem oF:szB qP 29 false 1=true:=by kernel_rfl
theorem xf:slB qP 29 120 1=true:=by kernel_rfl
theorem qD:tV qP 29=true:=by kernel_rfl
theorem BD:szB qP 31 true 2=true:=by kernel_rfl
theorem Pm:eC qP 31 (.agg #[.int .i64 0,.slice none 0 0]):=by unfold eC;kernel_rfl
theorem fB:fldB qP 31 0 0=true:=by kernel_rfl
theorem fU:fldB qP 31 1 1=true:=by kernel_rfl
theorem ae1:uu qP 31 [(0,1),(1,1)]=true:=by kernel_rfl
theorem fM:szB qP 33 true 2=true:=by kernel_rfl
theorem aG2:Ey qP 33 16=true:=by kernel_rfl
theorem r9:eC qP 33 (.agg #[.int .i64 0,.int .i64 0]):=by unfold eC;kernel_rfl
theorem gU:fldB qP 33 0 0=true:=by kernel_rfl
theorem dQ:fldB qP 33 1 1=true:=by kernel_rfl
theorem F1:(match qP.underlying 33 with|some (.struct fs)=>(fs[1]?).map (λfd=>(fd.offset,fd.type))|_=>none)=some (1,3):=by kernel_rfl
theorem LG:uu qP 33 [(0,1),(1,1)]=true:=by kernel_rfl
theorem mI:szB qP 35 true 5=true:=by kernel_rfl
theorem Xd:eC qP 35 (.agg #[.int .i64 0,.int .i64 0,.int .i64 0,.int .i64 0,.int .i64 0]):=by unfold eC;kernel_rfl
theorem gT:fldB qP 35 0 0=true:=by kernel_rfl
theorem fA:fldB qP 35 1 2=true:=by kernel_rfl
theorem l8:fldB qP 35 2 3=true:=by kernel_rfl
theorem oi:fldB qP 35 3 4=true:=by kernel_rfl
theorem ae0:uu qP 35 [(0,2),(2,1),(3,1),(4,1)]=true:=by kernel_rfl
theorem kJ:szB qP 37 true 18=true:=by kernel_rfl
theorem Pk:eC qP 37 (.agg #[.slice none 0 0,.int .i64 0,.int .i64 0,.int .i64 0,.int .i64 0,.int .i64 0,.int .i64 0,.int .i64 0,.int .i64 0,.int .i64 0,.int .i64 0,.int .i64 0,.slice none 0 0,.int .i64 0,.int .i64 0,.int .i64 0,.int .i64 0,.int .i64 0]):=by unfold eC;kernel_rfl
theorem fc:fldB qP 37 0 0=true:=by kernel_rfl
theorem iz:fldB qP 37 1 11=true:=by kernel_rfl
theorem fy:fldB qP 37 2 13=true:=by kernel_rfl
theorem ad9:uu qP 37 [(0,11),(11,2),(13,5)]=true:=by kernel_rfl
theorem uW:slB qP 38 64 1=true:=by kernel_rfl
theorem tC:tV qP 38=true:=by kernel_rfl
theorem PW:slB qP 42 71 1=true:=by kernel_rfl
theorem yF:tV qP 42=true:=by kernel_rfl
theorem TY:szB qP 43 false 1=true:=by kernel_rfl
theorem EA:eC qP 43 (.int .i64 0):=by unfold eC;kernel_rfl
theorem pn:szB qP 64 false 1=true:=by kernel_rfl
theorem aG1:Ey qP 64 24=true:=by kernel_rfl
theorem TM:eC qP 64 (.slice none 0 0):=by unfold eC;kernel_rfl
theorem gK:slB qP 64 3 1=true:=by kernel_rfl
theorem iX:tV qP 64=true:=by kernel_rfl
theorem ab3:szB qP 71 false 1=true:=by kernel_rfl
theorem aG0:Ey qP 71 16=true:=by kernel_rfl
theorem Xc:eC qP 71 (.complex .f64 0 0):=by unfold eC;kernel_rfl
theorem dM:szB qP 76 true 2=true:=by kernel_rfl
theorem gv:eC qP 76 (.agg #[.int .i64 0,.int .i64 0]):=by unfold eC;kernel_rfl
theorem eu:fldB qP 76 0 0=true:=by kernel_rfl
theorem fw:fldB qP 76 1 1=true:=by kernel_rfl
theorem qm:uu qP 76 [(0,1),(1,1)]=true:=by kernel_rfl
theorem S6:EqI qP 76 2:=by
 intro xs ys hx hy w
 match xs,ys,hx,hy with
 | [a0,a1],[b0,b1],_,_=>
  refine⟨λx y=>run_eqGuard_agg w .eql 76 x y _ _ (by kernel_rfl),λx y=>run_eqGuard_agg w .neq 76 x y _ _ (by kernel_rfl),?_⟩;have hf:(qP.fieldsOf 76).toList=[⟨ "Lo",3,0,false,"","",0⟩,⟨ "Hi",3,1,false,"","",8⟩]:=by kernel_rfl
  rw[show (10000:Nat)=9998+1+1 from rfl,run_equalIn_struct w (9998+1) 76 _ _ (by kernel_rfl) (by kernel_rfl),hf];have u3:=(qU Tryz.underlying3);simp[Op.eqFields,part,isAgg,run_underlying u3,iW,run_equalIn_int,u3,Result.andThen]
  (repeat' split)<;>simp_all
theorem KC:szB qP 77 true 4=true:=by kernel_rfl
theorem Kh:eC qP 77 (.agg #[.int .i64 0,.int .i64 0,.int .i64 0,.int .i64 0]):=by unfold eC;kernel_rfl
theorem sW:arB qP 77 2 76 2=true:=by kernel_rfl
theorem lg:szB qP 84 false 1=true:=by kernel_rfl
theorem Kg:eC qP 84 (.pointer none):=by unfold eC;kernel_rfl
theorem oE:szB qP 88 true 5=true:=by kernel_rfl
theorem Bq:eC qP 88 (.agg #[.int .i64 0,.int .i64 0,.int .i64 0,.int .i64 0,.int .i64 0]):=by unfold eC;kernel_rfl
theorem fT:fldB qP 88 0 0=true:=by kernel_rfl
theorem LF:uu qP 88 [(0,5)]=true:=by kernel_rfl
theorem TX:szB qP 89 false 1=true:=by kernel_rfl
theorem Uh:slB qP 89 202 61=true:=by kernel_rfl
theorem at4:eC qP 91 (.agg #[.int .i64 0,.int .i64 0,.int .i64 0,.int .i64 0,.int .i64 0,.slice none 0 0,.int .i64 0,.int .i64 0,.int .i64 0,.int .i64 0,.int .i64 0,.int .i64 0,.int .i64 0,.int .i64 0,.int .i64 0,.int .i64 0,.int .i64 0,.slice none 0 0]):=by unfold eC;kernel_rfl
theorem qZ:fldB qP 91 0 0=true:=by kernel_rfl
theorem qY:fldB qP 91 1 5=true:=by kernel_rfl
theorem oh:fldB qP 91 2 16=true:=by kernel_rfl
theorem AI:fldB qP 91 3 17=true:=by kernel_rfl
theorem av5:uu qP 91 [(0,5),(5,11),(16,1),(17,1)]=true:=by kernel_rfl
theorem ab2:szB qP 92 false 1=true:=by kernel_rfl
theorem Xb:eC qP 92 (.slice none 0 0):=by unfold eC;kernel_rfl
theorem Ug:slB qP 92 104 1=true:=by kernel_rfl
theorem ai0:tV qP 92=true:=by kernel_rfl
theorem ID:szB qP 97 false 1=true:=by kernel_rfl
theorem SC:vH qP 97 .u64=true:=by kernel_rfl
theorem ab5:szB qP 104 false 1=true:=by kernel_rfl
theorem TA:Ey qP 104 24=true:=by kernel_rfl
theorem Xj:eC qP 104 (.slice none 0 0):=by unfold eC;kernel_rfl
theorem uX:slB qP 104 108 2=true:=by kernel_rfl
theorem MD:tV qP 104=true:=by kernel_rfl
theorem fW:szB qP 108 true 2=true:=by kernel_rfl
theorem Tz:Ey qP 108 16=true:=by kernel_rfl
theorem jW:eC qP 108 (.agg #[.int .i64 0,.int .i64 0]):=by unfold eC;kernel_rfl
theorem rj:fldB qP 108 0 0=true:=by kernel_rfl
theorem ri:fldB qP 108 1 1=true:=by kernel_rfl
theorem Sp:uu qP 108 [(0,1),(1,1)]=true:=by kernel_rfl
theorem xV:szB qP 120 false 1=true:=by kernel_rfl
theorem Ty:Ey qP 120 4=true:=by kernel_rfl
theorem Kj:eC qP 120 (.float .f32 0):=by unfold eC;kernel_rfl
theorem ik:fltB qP 120 .f32=true:=by kernel_rfl
theorem mh:szB qP 131 true 6=true:=by kernel_rfl
theorem xO:eC qP 131 (.agg #[.int .i64 0,.int .i64 0,.int .i64 0,.int .i64 0,.int .i64 0,.slice none 0 0]):=by unfold eC;kernel_rfl
theorem lG:fldB qP 131 0 0=true:=by kernel_rfl
theorem rh:fldB qP 131 1 5=true:=by kernel_rfl
theorem LI:uu qP 131 [(0,5),(5,1)]=true:=by kernel_rfl
theorem ac1:slB qP 140 200 8=true:=by kernel_rfl
theorem Sb:szB qP 142 true 13=true:=by kernel_rfl
theorem R4:eC qP 142 (.agg #[.slice none 0 0,.int .i64 0,.int .i64 0,.int .i64 0,.int .i64 0,.int .i64 0,.int .i64 0,.int .i64 0,.int .i64 0,.int .i64 0,.int .i64 0,.slice none 0 0,.slice none 0 0]):=by unfold eC;kernel_rfl
theorem Rk:(match qP.underlying 142 with|some (.struct fs)=>(fs[0]?).map (λfd=>(fd.offset,fd.type))|_=>none)=some (0,28):=by kernel_rfl
theorem ae7:uu qP 142 [(0,11),(11,1),(12,1)]=true:=by kernel_rfl
theorem oQ:szB qP 146 true 2=true:=by kernel_rfl
theorem Bt:eC qP 146 (.agg #[.int .i64 0,.int .i64 0]):=by unfold eC;kernel_rfl
theorem kF:arB qP 146 2 3 1=true:=by kernel_rfl
theorem KE:szB qP 151 false 1=true:=by kernel_rfl
theorem sQ:fltB qP 156 .f64=true:=by kernel_rfl
theorem BE:szB qP 161 true 61=true:=by kernel_rfl
theorem Ki:eC qP 161 (.agg #[.complex .f32 0 0,.complex .f32 0 0,.complex .f32 0 0,.complex .f32 0 0,.complex .f32 0 0,.complex .f32 0 0,.complex .f32 0 0,.complex .f32 0 0,.complex .f32 0 0,.complex .f32 0 0,.complex .f32 0 0,.complex .f32 0 0,.complex .f32 0 0,.complex .f32 0 0,.complex .f32 0 0,.complex .f32 0 0,.complex .f32 0 0,.complex .f32 0 0,.complex .f32 0 0,.complex .f32 0 0,.complex .f32 0 0,.complex .f32 0 0,.complex .f32 0 0,.complex .f32 0 0,.complex .f32 0 0,.complex .f32 0 0,.complex .f32 0 0,.complex .f32 0 0,.complex .f32 0 0,.complex .f32 0 0,.complex .f32 0 0,.complex .f32 0 0,.complex .f32 0 0,.complex .f32 0 0,.complex .f32 0 0,.complex .f32 0 0,.complex .f32 0 0,.complex .f32 0 0,.complex .f32 0 0,.complex .f32 0 0,.complex .f32 0 0,.complex .f32 0 0,.complex .f32 0 0,.complex .f32 0 0,.complex .f32 0 0,.complex .f32 0 0,.complex .f32 0 0,.complex .f32 0 0,.complex .f32 0 0,.complex .f32 0 0,.complex .f32 0 0,.complex .f32 0 0,.complex .f32 0 0,.complex .f32 0 0,.complex .f32 0 0,.complex .f32 0 0,.complex .f32 0 0,.complex .f32 0 0,.complex .f32 0 0,.complex .f32 0 0,.complex .f32 0 0]):=by unfold eC;kernel_rfl
theorem as5:arB qP 161 61 151 1=true:=by kernel_rfl
theorem KD:szB qP 165 true 64=true:=by kernel_rfl
theorem OB:arB qP 165 64 120 1=true:=by kernel_rfl
theorem MF:vH qP 173 .u64=true:=by kernel_rfl
theorem R3:eC qP 200 (.agg #[.int .i64 0,.int .i64 0,.int .i64 0,.int .i64 0,.int .i64 0,.int .i64 0,.int .i64 0,.int .i64 0]):=by unfold eC;kernel_rfl
theorem ae6:uu qP 200 [(0,1),(1,2),(3,2),(5,1),(6,1),(7,1)]=true:=by kernel_rfl
theorem as1:Ey qP 202 488=true:=by kernel_rfl
theorem R2:eC qP 202 (.agg #[.complex .f32 0 0,.complex .f32 0 0,.complex .f32 0 0,.complex .f32 0 0,.complex .f32 0 0,.complex .f32 0 0,.complex .f32 0 0,.complex .f32 0 0,.complex .f32 0 0,.complex .f32 0 0,.complex .f32 0 0,.complex .f32 0 0,.complex .f32 0 0,.complex .f32 0 0,.complex .f32 0 0,.complex .f32 0 0,.complex .f32 0 0,.complex .f32 0 0,.complex .f32 0 0,.complex .f32 0 0,.complex .f32 0 0,.complex .f32 0 0,.complex .f32 0 0,.complex .f32 0 0,.complex .f32 0 0,.complex .f32 0 0,.complex .f32 0 0,.complex .f32 0 0,.complex .f32 0 0,.complex .f32 0 0,.complex .f32 0 0,.complex .f32 0 0,.complex .f32 0 0,.complex .f32 0 0,.complex .f32 0 0,.complex .f32 0 0,.complex .f32 0 0,.complex .f32 0 0,.complex .f32 0 0,.complex .f32 0 0,.complex .f32 0 0,.complex .f32 0 0,.complex .f32 0 0,.complex .f32 0 0,.complex .f32 0 0,.complex .f32 0 0,.complex .f32 0 0,.complex .f32 0 0,.complex .f32 0 0,.complex .f32 0 0,.complex .f32 0 0,.complex .f32 0 0,.complex .f32 0 0,.complex .f32 0 0,.complex .f32 0 0,.complex .f32 0 0,.complex .f32 0 0,.complex .f32 0 0,.complex .f32 0 0,.complex .f32 0 0,.complex .f32 0 0]):=by unfold eC;kernel_rfl
theorem TE:arB qP 202 61 151 1=true:=by kernel_rfl
theorem GV:szB qP 210 true 64=true:=by kernel_rfl
theorem RY:eC qP 210 (.agg #[.int .i64 0,.int .i64 0,.int .i64 0,.int .i64 0,.int .i64 0,.int .i64 0,.int .i64 0,.int .i64 0,.int .i64 0,.int .i64 0,.int .i64 0,.int .i64 0,.int .i64 0,.int .i64 0,.int .i64 0,.int .i64 0,.int .i64 0,.int .i64 0,.int .i64 0,.int .i64 0,.int .i64 0,.int .i64 0,.int .i64 0,.int .i64 0,.int .i64 0,.int .i64 0,.int .i64 0,.int .i64 0,.int .i64 0,.int .i64 0,.int .i64 0,.int .i64 0,.int .i64 0,.int .i64 0,.int .i64 0,.int .i64 0,.int .i64 0,.int .i64 0,.int .i64 0,.int .i64 0,.int .i64 0,.int .i64 0,.int .i64 0,.int .i64 0,.int .i64 0,.int .i64 0,.int .i64 0,.int .i64 0,.int .i64 0,.int .i64 0,.int .i64 0,.int .i64 0,.int .i64 0,.int .i64 0,.int .i64 0,.int .i64 0,.int .i64 0,.int .i64 0,.int .i64 0,.int .i64 0,.int .i64 0,.int .i64 0,.int .i64 0,.int .i64 0]):=by unfold eC;kernel_rfl
theorem TC:arB qP 210 64 3 1=true:=by kernel_rfl
theorem mJ:szB qP 232 true 11=true:=by kernel_rfl
theorem Bs:eC qP 232 (.agg #[.slice none 0 0,.int .i64 0,.int .i64 0,.int .i64 0,.int .i64 0,.int .i64 0,.int .i64 0,.int .i64 0,.int .i64 0,.int .i64 0,.int .i64 0]):=by unfold eC;kernel_rfl
theorem nz:fldB qP 232 0 0=true:=by kernel_rfl
theorem ae5:uu qP 232 [(0,11)]=true:=by kernel_rfl
theorem Xi:eC qP 237 (.agg #[.int .i64 0,.int .i64 0,.int .i64 0,.int .i64 0,.int .i64 0,.int .i64 0,.int .i64 0,.int .i64 0,.int .i64 0,.int .i64 0,.int .i64 0,.int .i64 0,.int .i64 0,.int .i64 0]):=by unfold eC;kernel_rfl
theorem Df:fldB qP 237 0 0=true:=by kernel_rfl
theorem De:fldB qP 237 1 4=true:=by kernel_rfl
theorem Nv:fldB qP 237 2 8=true:=by kernel_rfl
theorem Dd:fldB qP 237 3 10=true:=by kernel_rfl
theorem Nu:fldB qP 237 4 12=true:=by kernel_rfl
theorem ae4:uu qP 237 [(0,4),(4,4),(8,2),(10,2),(12,2)]=true:=by kernel_rfl
theorem Sa:szB qP 243 true 4=true:=by kernel_rfl
theorem Xg:eC qP 243 (.agg #[.int .i64 0,.int .i64 0,.int .i64 0,.int .i64 0]):=by unfold eC;kernel_rfl
theorem D4:arB qP 243 4 3 1=true:=by kernel_rfl
theorem oT:slB qP 248 43 1=true:=by kernel_rfl
theorem FK:tV qP 248=true:=by kernel_rfl
theorem Xf:eC qP 253 (.agg #[.int .i64 0,.int .i64 0,.int .i64 0,.int .i64 0,.int .i64 0,.int .i64 0]):=by unfold eC;kernel_rfl
theorem nx:fldB qP 253 0 0=true:=by kernel_rfl
theorem nu:fldB qP 253 1 1=true:=by kernel_rfl
theorem nt:fldB qP 253 2 2=true:=by kernel_rfl
theorem nq:fldB qP 253 3 3=true:=by kernel_rfl
theorem np:fldB qP 253 4 4=true:=by kernel_rfl
theorem nj:fldB qP 253 5 5=true:=by kernel_rfl
theorem ae3:uu qP 253 [(0,1),(1,1),(2,1),(3,1),(4,1),(5,1)]=true:=by kernel_rfl
theorem gh:szB qP 255 true 6=true:=by kernel_rfl
theorem s7:eC qP 255 (.agg #[.int .i64 0,.int .i64 0,.int .i64 0,.int .i64 0,.int .i64 0,.int .i64 0]):=by unfold eC;kernel_rfl
theorem bT:fldB qP 255 0 0=true:=by kernel_rfl
theorem LH:uu qP 255 [(0,6)]=true:=by kernel_rfl
theorem te:szB qP 270 true 2=true:=by kernel_rfl
theorem GF:eC qP 270 (.agg #[.int .u64 0,.int .u64 0]):=by unfold eC;kernel_rfl
theorem ra:fldB qP 270 0 0=true:=by kernel_rfl
theorem Dc:fldB qP 270 1 1=true:=by kernel_rfl
theorem ae2:uu qP 270 [(0,1),(1,1)]=true:=by kernel_rfl
theorem VH:EqK qP .u64 270 2:=by
 intro xs ys hx hy w
 match xs,ys,hx,hy with
 | [a0,a1],[b0,b1],_,_=>
  refine⟨λx y=>run_eqGuard_agg w .eql 270 x y _ _ (by kernel_rfl),λx y=>run_eqGuard_agg w .neq 270 x y _ _ (by kernel_rfl),?_⟩;have hf:(qP.fieldsOf 270).toList=[⟨ "high",97,0,false,"","couplant/ray",0⟩,⟨ "low",97,1,false,"","couplant/ray",8⟩]:=by kernel_rfl
  rw[show (10000:Nat)=9998+1+1 from rfl,run_equalIn_struct w (9998+1) 270 _ _ (by kernel_rfl) (by kernel_rfl),hf];have u97:=(qU Tryz.underlying97);simp[Op.eqFields,part,isAgg,run_underlying u97,kW,run_equalIn_int,u97,Result.andThen]
  (repeat' split)<;>simp_all
end
end Go.Proofs.YthcfokccjljnpaaGreat.Am
namespace Go.Proofs.YthcfokccjljnpaaGreat.Am.M
section
open Go
def iC(x:Int):List D:=[.v (.int .i64 x)]
def dP(lo n hi:Int):Bool:=decide (lo≤n)&&decide (n≤hi)
def firstE:List Int->Int
 | []=>0
 | x::xs=>if x=0 then firstE xs else x
theorem lX{a b A B:Int}(h1 : -A≤a)(h2:a≤A)(h3 : -B≤b)(h4:b≤B) : -(A*B)≤a*b∧a*b≤A*B:=by
 have hA:0≤A:=by omega
 have hB:0≤B:=by omega
 have k1:0≤(A - a)*(B+b):=X2 (by omega) (by omega);have k2:0≤(A+a)*(B - b):=X2 (by omega) (by omega);have k3:0≤(A - a)*(B - b):=X2 (by omega) (by omega);have k4:0≤(A+a)*(B+b):=X2 (by omega) (by omega);rw[Int.sub_mul,ZX,ZX]at k1;rw[Int.add_mul,Int.mul_sub,Int.mul_sub]at k2;rw[Int.sub_mul,Int.mul_sub,Int.mul_sub]at k3;rw[Int.add_mul,ZX,ZX]at k4;generalize A*B=AB at *;generalize A*b=Ab at *;generalize a*B=aB at *;generalize a*b=ab at *;omega
def Sm(n:Int):Prop:=-4611686018427387904≤n∧n≤4611686018427387904
theorem GU{a b:Int}(h:Sm a)(hb:0<b):Sm (a.tdiv b):=by
 obtain⟨h1,h2⟩:=h;have hd:=Int.mul_tdiv_add_tmod a b
 rcases(show a<0∨0≤a by omega) with ha|ha
 ·have e:a.tdiv b = -((-a).tdiv b):=by rw[Int.neg_tdiv,Int.neg_neg]
  have e2:(-a).tdiv b=(-a) / b:=Y2 (by omega);have h3:0≤(-a) / b:=Int.ediv_nonneg (by omega) (by omega);have h4:(-a) / b≤-a:=Int.ediv_le_self _ (by omega);rw[e,e2];constructor<;>omega
 ·have e2:a.tdiv b=a / b:=Y2 ha
  have h3:0≤a / b:=Int.ediv_nonneg ha (by omega);have h4:a / b≤a:=Int.ediv_le_self _ ha;rw[e2];constructor<;>omega
theorem yV{n b:Int}(hb:0<b):(if n.tmod b<0 then n.tdiv b - 1 else n.tdiv b)=n / b:=by
 have h1:=Int.mul_tdiv_add_tmod n b;have h2:=Int.mul_ediv_add_emod n b;have h3:=Int.emod_nonneg n (by omega:b≠0);have h4:=Int.emod_lt_of_pos n hb
 have h5 : -b<n.tmod b:=by
  rcases(show n<0∨0≤n by omega) with hn|hn
  ·have e:n.tmod b = -((-n).tmod b):=by rw[Int.neg_tmod,Int.neg_neg]
   rw[e,Int.tmod_eq_emod_of_nonneg (by omega)];have:=Int.emod_lt_of_pos (-n) hb;omega
  ·rw[Int.tmod_eq_emod_of_nonneg hn]
   have:=Int.emod_nonneg n (by omega:b≠0);omega
 have h6:n.tmod b<b:=Int.tmod_lt_of_pos n hb
 have key:∀q r q' r':Int,b*q+r=n->b*q'+r'=n->0≤r->r<b->0≤r'->r'<b->q=q':=by
  intro q r q' r' e1 e2 a1 a2 a3 a4
  rcases Int.lt_trichotomy q q' with h|h|h
  ·have:b*(q+1)≤b*q':=Zj (by omega) (by omega)
   rw[ZX]at this;omega
  ·exact h
  ·have:b*(q'+1)≤b*q:=Zj (by omega) (by omega)
   rw[ZX]at this;omega
 split
 ·exact key (n.tdiv b - 1) (n.tmod b+b) _ _ (by rw[Int.mul_sub];omega) h2 (by omega) (by omega) h3 h4
 ·exact key (n.tdiv b) (n.tmod b) _ _ h1 h2 (by omega) (by omega) h3 h4
def shC(x:Int × Int):List D:=[.v (.int .i64 x.1),.v (.int .i64 x.2)]
theorem Rt{a b:Int}(h:Sm a)(hb:0<b) : -4611686018427387904≤a / b∧a / b≤4611686018427387904:=by
 obtain⟨h1,h2⟩:=h;refine⟨?_,?_⟩
 ·rw[Int.le_ediv_iff_mul_le hb]
  have:b*1≤b*4611686018427387904:=Zj (by omega) (by omega);rw[Int.mul_comm]at this;omega
 ·rcases(show a<0∨0≤a by omega) with ha|ha
  ·have:=Int.ediv_neg_of_neg_of_pos ha hb;omega
  ·have:=Int.ediv_le_self b ha;omega
def pb(n b:Int):Int:=-((-n) / b)
def idxOf{α:Type}(f:α->Bool):Nat->List α->Int
 | _,[]=>-1
 | i,x::xs=>if f x=true then (i:Int) else idxOf f (i+1) xs
def rb(n:Int):Nat->Int->Int
 | 0,r=>r
 | k+1,r=>rb n k (if (r+2 ^ k)*(r+2 ^ k)≤n then r+2 ^ k else r)
def gk(n:Int):Int:=rb n 31 0
theorem zM{n:Int}:∀{k:Nat} {r:Int},0≤r->r*r≤n->n<(r+2 ^ k)*(r+2 ^ k)->0≤rb n k r∧rb n k r*rb n k r≤n∧n<(rb n k r+1)*(rb n k r+1)∧rb n k r<r+2 ^ k
 | 0,r,h0,h1,h2=>⟨h0,h1,(show n<(r+1)*(r+1) by simpa using h2),(show r<r+2 ^ 0 by omega)⟩
 | k+1,r,h0,h1,h2=>by
  have hp:(0:Int)<2 ^ k:=Int.pow_pos (by omega);have e:(2:Int) ^ (k+1)=2 ^ k+2 ^ k:=by rw[Int.pow_succ];omega
  unfold rb
  split
  ·rename_i h
   obtain⟨a,b,c,d⟩:=zM (k:=k) (r:=r+2 ^ k) (by omega) h (by rw[e]at h2;rw[Int.add_assoc];exact h2);exact⟨a,b,c,by omega⟩
  ·rename_i h
   obtain⟨a,b,c,d⟩:=zM (k:=k) (r:=r) h0 h1 (by omega);exact⟨a,b,c,by omega⟩
theorem lq{n:Int}(h0:0≤n)(h1:n<4611686018427387904):0≤gk n∧gk n*gk n≤n∧n<(gk n+1)*(gk n+1)∧gk n<2147483648:=by
 have:=zM (n:=n) (k:=31) (r:=0) (by omega) (by omega) (by simpa using h1)
 simpa [gk] using this
theorem Sc{a b:Int}(h:0≤b)(hl:a*a<b*b):a<b:=by
 by_cases h1:a<b
 ·exact h1
 ·have h2:=Int.mul_le_mul (show b≤a by omega) (show b≤a by omega) h (by omega)
  omega
theorem ab8{a b:Int}(h:0≤a)(hl:a≤b):a*a≤b*b:=Int.mul_le_mul hl hl h (by omega)
theorem BW{n r:Int}(h0:0≤n)(h1:n<4611686018427387904)(hr:0≤r):n<r*r↔gk n<r:=by
 obtain⟨a,b,c,d⟩:=lq h0 h1;constructor
 ·intro h;exact Sc hr (by omega)
 ·intro h
  have:=ab8 (show 0≤gk n+1 by omega) (show gk n+1≤r by omega);omega
def bsr(f:Int->Bool):Nat->Int->Int->Int
 | 0,i,_=>i
 | k+1,i,j=>if i<j then (if f ((i+j) / 2)=true then bsr f k i ((i+j) / 2) else bsr f k ((i+j) / 2+1) j) else i
def BI(f:Int->Bool)(n:Int):Int:=bsr f 62 0 n
theorem DL{f:Int->Bool}{k:Nat}{i j:Int}(h:i<j):bsr f (k+1) i j=if f ((i+j) / 2)=true then bsr f k i ((i+j) / 2) else bsr f k ((i+j) / 2+1) j:=by rw[bsr,Xu h]
theorem DK{f:Int->Bool}{k:Nat}{i j:Int}(h:¬i<j):bsr f k i j=i:=by
 cases k with
 | zero=>rfl
 | succ k=>rw[bsr,Xr h]
theorem Gg{f:Int->Bool}:∀{k:Nat} {i j:Int},i≤j->i≤bsr f k i j∧bsr f k i j≤j
 | 0,i,j,h=>⟨Int.le_refl _,h⟩
 | k+1,i,j,h=>by
  unfold bsr
  split
  ·split
   ·have:=Gg (f:=f) (k:=k) (i:=i) (j:=(i+j) / 2) (by omega);omega
   ·have:=Gg (f:=f) (k:=k) (i:=(i+j) / 2+1) (j:=j) (by omega);omega
  ·omega
theorem Gh{f:Int->Bool}{m:Int}:∀{k:Nat} {i j:Int},i≤m->m≤j->j - i<2 ^ k->(∀h,i≤h->h<m->f h=false)->(∀h,m≤h->h<j->f h=true)->bsr f k i j=m
 | 0,i,j,h1,h2,h3,_,_=>by simp at h3;unfold bsr;omega
 | k+1,i,j,h1,h2,h3,h4,h5=>by
  have e:(2:Int) ^ (k+1)=2 ^ k+2 ^ k:=by rw[Int.pow_succ];omega
  unfold bsr
  by_cases SV:i<j
  ·rw[Xu SV]
   cases hf:f ((i+j) / 2) with
   | true=>
    rw[Xu rfl]
    have hm:m≤(i+j) / 2:=by
     by_cases q:m≤(i+j) / 2
     ·exact q
     ·rw[h4 _ (by omega) (by omega)]at hf;cases hf
    exact Gh h1 hm (by omega) h4 (λh a b=>h5 h a (by omega))
   | false=>
    rw[Xr (by simp)]
    have hm:(i+j) / 2<m:=by
     by_cases q:(i+j) / 2<m
     ·exact q
     ·rw[h5 _ (by omega) (by omega)]at hf;cases hf
    exact Gh (by omega) h2 (by omega) (λh a b=>h4 h (by omega) b) h5
  ·rw[Xr SV];omega
theorem PH{f:Int->Bool}{m n:Int}(h1:0≤m)(h2:m≤n)(h3:n<4611686018427387904)(h4:∀h,0≤h->h<m->f h=false)(h5:∀h,m≤h->h<n->f h=true):BI f n=m:=
 Gh h1 h2 (by simpa using h3) h4 h5
theorem IT{n:Int}(h0:0≤n)(h1:n<4611686018427387904):BI (λr=>decide (n<r*r)) 2147483648 - 1=gk n:=by
 obtain⟨a,b,c,d⟩:=lq h0 h1
 have:BI (λr=>decide (n<r*r)) 2147483648=gk n+1:=PH (by omega) (by omega) (by omega)
  (λh q1 q2=>XV λq=>by have:=(BW h0 h1 q1).1 q;omega) (λh q1 q2=>X5 ((BW h0 h1 (by omega)).2 (by omega)))
 omega
abbrev Rg:=Int × Int
def oI(x z:Int):Rg:=(gk (1000000*(x*x+z*z)),if gk (1000000*(x*x+z*z))*gk (1000000*(x*x+z*z))<1000000*(x*x+z*z) then gk (1000000*(x*x+z*z))+1 else gk (1000000*(x*x+z*z)))
def sf(r:Rg)(v:Int):Rg:=(r.1*10000 / v,pb (r.2*10000) v)
structure ue where
 x1:Int
 h1:Int
 v1:Int
 x2:Int
 h2:Int
 v2:Int
def xJ(x:ue):List D:=[.v (.int .i64 x.x1),.v (.int .i64 x.h1),.v (.int .i64 x.v1),.v (.int .i64 x.x2),.v (.int .i64 x.h2),.v (.int .i64 x.v2)]
structure nH(x:ue):Prop where
 a1 : -100000≤x.x1
 a2:x.x1≤100000
 b1 : -100000≤x.x2
 b2:x.x2≤100000
 c1:1≤x.h1
 c2:x.h1≤100000
 d1:1≤x.h2
 d2:x.h2≤100000
 e1:500≤x.v1
 e2:x.v1≤10000
 f1:500≤x.v2
 f2:x.v2≤10000
def mz(a b:Int):Int:=if a=b then 0 else if a<b then -1 else 1
def tT(x:ue)(at_:Int):Int:=((at_ - x.x1)*x.v2*(at_ - x.x1)*x.v2)*((x.x2 - at_)*(x.x2 - at_)+x.h2*x.h2)
def tP(x:ue)(at_:Int):Int:=((x.x2 - at_)*x.v1*(x.x2 - at_)*x.v1)*((at_ - x.x1)*(at_ - x.x1)+x.h1*x.h1)
def fZ(x:ue)(at_:Int):Int:=if x.x2<x.x1 then -(mz (tT x at_) (tP x at_)) else mz (tT x at_) (tP x at_)
def je(x:ue):Int:=min x.x1 x.x2
def ub(x:ue):Int:=max x.x1 x.x2
def cR(x:ue):Int:=je x - 1+BI (λn=>decide (0<fZ x (je x+n))) (ub x - je x+1)
def fu(x:ue)(at_:Int):Rg:=((sf (oI (at_ - x.x1) x.h1) x.v1).1+(sf (oI (x.x2 - at_) x.h2) x.v2).1,(sf (oI (at_ - x.x1) x.h1) x.v1).2+(sf (oI (x.x2 - at_) x.h2) x.v2).2)
def jz(x:ue):Rg:=if dP (je x) (cR x+1) (ub x)=true then (min (fu x (cR x)).1 (fu x (cR x+1)).1,min (fu x (cR x)).2 (fu x (cR x+1)).2) else fu x (cR x)
def jy(x:ue):Rg:=(max 0 ((jz x).1 - pb 10000000 (x.v1*x.h1) - pb 10000000 (x.v2*x.h2)),(jz x).2)
theorem PX{a b:Int}:0<mz a b↔b<a:=by
 unfold mz
 by_cases h:a=b
 ·rw[Xu h];omega
 ·rw[Xr h]
  by_cases h':a<b
  ·rw[Xu h'];omega
  ·rw[Xr h'];omega
theorem PY{a b:Int}:mz a b<0↔a<b:=by
 unfold mz
 by_cases h:a=b
 ·rw[Xu h];omega
 ·rw[Xr h]
  by_cases h':a<b
  ·rw[Xu h'];omega
  ·rw[Xr h'];omega
theorem K1{x:ue}(hx:nH x):¬0<fZ x (je x):=by
 intro h;unfold fZ je at h
 by_cases bH:x.x2<x.x1
 ·rw[Xu bH,show min x.x1 x.x2=x.x2 by omega]at h
  have h1:tT x x.x2<tP x x.x2:=PY.1 (by omega);have e2:tP x x.x2=0:=by unfold tP;rw[ZY];simp
  have e1:0≤tT x x.x2:=by
   unfold tT;refine X2 ?_ ?_
   ·have:(x.x2 - x.x1)*x.v2*(x.x2 - x.x1)*x.v2=((x.x1 - x.x2)*x.v2)*((x.x1 - x.x2)*x.v2):=by grind
    rw[this];have:=X2 (show 0≤x.x1 - x.x2 by omega) (show 0≤x.v2 by have:=hx.f1;omega);exact X2 this this
   ·have:=X2 (show 0≤x.h2 by have:=hx.d1;omega) (show 0≤x.h2 by have:=hx.d1;omega)
    rw[ZY];omega
  omega
 ·rw[Xr bH,show min x.x1 x.x2=x.x1 by omega]at h
  have h1:=PX.1 h;have e1:tT x x.x1=0:=by unfold tT;rw[ZY];simp
  have e2:0≤tP x x.x1:=by
   unfold tP;refine X2 ?_ ?_
   ·have:(x.x2 - x.x1)*x.v1*(x.x2 - x.x1)*x.v1=((x.x2 - x.x1)*x.v1)*((x.x2 - x.x1)*x.v1):=by grind
    rw[this];have:=X2 (show 0≤x.x2 - x.x1 by omega) (show 0≤x.v1 by have:=hx.e1;omega);exact X2 this this
   ·have:=X2 (show 0≤x.h1 by have:=hx.c1;omega) (show 0≤x.h1 by have:=hx.c1;omega)
    rw[ZY];omega
  omega
theorem wL{f:Int->Bool}{i0 j0:Int}:∀{k:Nat} {i j:Int},i≤j->j - i<2 ^ k->(i=i0∨f (i - 1)=false)->(j=j0∨f j=true)->(bsr f k i j=i0∨f (bsr f k i j - 1)=false)∧(bsr f k i j=j0∨f (bsr f k i j)=true)
 | 0,i,j,h,h3,h1,h2=>by
  simp at h3;have:i=j:=by omega
  subst this;exact⟨h1,h2⟩
 | k+1,i,j,h,h3,h1,h2=>by
  have e:(2:Int) ^ (k+1)=2 ^ k+2 ^ k:=by rw[Int.pow_succ];omega
  by_cases SV:i<j
  ·rw[DL SV]
   cases hf:f ((i+j) / 2) with
   | true=>rw[Xu rfl];exact wL (by omega) (by omega) h1 (.inr hf)
   | false=>rw[Xr (by simp)];exact wL (by omega) (by omega) (.inr (by rw[show (i+j) / 2+1 - 1=(i+j) / 2 by omega];exact hf)) h2
  ·rw[DK SV]
   have:i=j:=by omega
   subst this;exact⟨h1,h2⟩
theorem pP{x:ue}(hx:nH x):je x≤cR x∧cR x≤ub x∧¬0<fZ x (cR x)∧(cR x=ub x∨0<fZ x (cR x+1)):=by
 have hb:je x≤ub x∧-100000≤je x∧ub x≤100000:=by
  obtain⟨a1,a2,b1,b2,_⟩:=hx;unfold je ub;omega
 have h0:=K1 hx;have h1:=Gg (f:=λn=>decide (0<fZ x (je x+n))) (k:=62) (i:=0) (j:=ub x - je x+1) (by omega);have h2:=wL (f:=λn=>decide (0<fZ x (je x+n))) (i0:=0) (j0:=ub x - je x+1) (k:=62) (i:=0) (j:=ub x - je x+1) (by omega) (by omega) (.inl rfl) (.inl rfl);have e:bsr (λn=>decide (0<fZ x (je x+n))) 62 0 (ub x - je x+1)=cR x - (je x - 1):=by unfold cR BI;omega
 rw[e]at h1 h2;simp only[XW,YP]at h2;obtain⟨h3,h4⟩:=h2
 have vL:je x≤cR x:=by
  by_cases q:je x≤cR x
  ·exact q
  ·exfalso
   have q2:cR x=je x - 1:=by omega
   rcases h4 with h4|h4
   ·omega
   ·rw[show je x+(cR x - (je x - 1))=je x by omega]at h4;exact h0 h4
 refine⟨vL,by omega,?_,?_⟩
 ·rcases h3 with h3|h3
  ·omega
  ·rwa [show je x+(cR x - (je x - 1) - 1)=cR x by omega]at h3
 ·rcases h4 with h4|h4
  ·left;omega
  ·right;rwa [show je x+(cR x - (je x - 1))=cR x+1 by omega]at h4
structure Fm(f:Ieee.Format)(p L I:Nat):Prop where
 fb:f.fractionBits=p
 lp:f.leastPlace = -(L:Int)
 pl:p≤L
 li:L+2≤I
 inf:f.infRung=I*2 ^ p
 sw:f.signWeight=(I+1)*2 ^ p
 bn:f.binade=2 ^ p
theorem H3:Fm Ieee.single 23 149 255:=⟨rfl,by decide,by decide,by decide,by decide,by decide,by decide⟩
theorem fmD:Fm Ieee.double 52 1074 2047:=⟨rfl,by decide,by decide,by decide,by decide +kernel,by decide +kernel,by decide⟩
theorem qB{c d:Nat}(hc:c≠0):(c*2 ^ d).log2=c.log2+d:=by
 induction d with
 | zero=>simp
 | succ d ih=>
  rw[ZC,<-YU,YW _ 2,Nat.log2_two_mul (by have:=Yj d;exact ZB hc (by omega)),ih];omega
theorem ry{neg:Bool}{c d:Nat}(hc:c≠0):Ieee.Toward.even.cut neg (c*2 ^ d) d=c:=by
 have hl:=qB (d:=d) hc;have hm:min d ((c*2 ^ d).log2+2)=d:=by rw[hl];omega
 have hp:=Yj d;unfold Ieee.Toward.cut;simp only[hm,Nat.one_shiftLeft,Nat.mul_div_cancel _ hp,Nat.mul_mod_left];have:(2 ^ d==2*0)=false:=by simp
 simp
theorem N5{neg:Bool}{c d:Nat}:Ieee.Toward.zero.cut neg (c*2 ^ d) d=c:=by
 have hp:=Yj d;unfold Ieee.Toward.cut
 by_cases hc:c=0
 ·subst hc;simp
 have hl:=qB (d:=d) hc;have hm:min d ((c*2 ^ d).log2+2)=d:=by rw[hl];omega
 simp only[hm,Nat.one_shiftLeft,Nat.mul_div_cancel _ hp];simp
variable{f:Ieee.Format}{p L I:Nat}
theorem pF{n:Nat}(hn:0<n)(bH:n<2 ^ (p+1)):n.log2≤p:=by
 have:=(Nat.log2_lt (by omega)).2 bH;omega
theorem pD (h : Fm f p L I) (neg : Bool) {n : Nat} (K : Nat) (hn : 0 < n) (bH : n < 2 ^ (p + 1)) :
  f.nearest neg (n*2 ^ K) (-(K:Int))=f.word neg (min ((L+n.log2 - p)*2 ^ p+n*2 ^ (p - n.log2)) (I*2 ^ p)):=by
 have hl:=qB (d:=K) (show n≠0 by omega);have hle:=pF hn bH;have hK:=Yj K;have QV:=h.pl;unfold Ieee.Format.nearest;rw[Xr (ZB (by omega) (by omega)),hl,h.fb,h.lp,h.bn,h.inf];simp only;have MV:max (-(K:Int)+((n.log2+K:Nat):Int) - (p:Int)) (-(L:Int))=(n.log2:Int) - p:=by omega
 rw[MV];congr 2;have e1:((n.log2:Int) - p - -(L:Int)).toNat=L+n.log2 - p:=by omega
 rw[e1];congr 1
 by_cases hk:K≤p - n.log2
 ·have e2:(-(K:Int) - ((n.log2:Int) - p)).toNat=p - n.log2 - K:=by omega
  have e3:((n.log2:Int) - p - -(K:Int)).toNat=0:=by omega
  rw[e2,e3,Y9,YU,<-YN,show K+(p - n.log2 - K)=p - n.log2 by omega];have:=ry (neg:=neg) (c:=n*2 ^ (p - n.log2)) (d:=0) (ZB (by omega) (by have:=Yj (p - n.log2);omega))
  rwa [Zg,YA]at this
 ·have e2:(-(K:Int) - ((n.log2:Int) - p)).toNat=0:=by omega
  have e3:((n.log2:Int) - p - -(K:Int)).toNat=K - (p - n.log2):=by omega
  rw[e2,e3,Y9,Zg,YA];have e4:n*2 ^ K=n*2 ^ (p - n.log2)*2 ^ (K - (p - n.log2)):=by rw[YU,<-YN,show p - n.log2+(K - (p - n.log2))=K by omega]
  rw[e4];exact ry (ZB (by omega) (by have:=Yj (p - n.log2);omega))
theorem fR(neg:Bool)(e:Int):f.nearest neg 0 e=f.word neg 0:=by unfold Ieee.Format.nearest;rw[Xu rfl]
theorem xo(h:Fm f p L I)(neg:Bool){n:Nat}(K:Nat)(bH:n<2 ^ (p+1)):f.nearest neg (n*2 ^ K) (-(K:Int))=f.nearest neg n 0:=by
 by_cases hn:n=0
 ·subst hn;rw[ZV,fR,fR]
 ·rw[pD h neg K (by omega) bH]
  have:=pD h neg 0 (n:=n) (by omega) bH;rw[Zg,YA]at this;exact this.symm
theorem yn(h:Fm f p L I)(neg:Bool){E r:Nat}(hE:E+1<I)(hr:r<2 ^ p):f.read (f.word neg (E*2 ^ p+(2 ^ p+r)))=.number neg (2 ^ p+r) ((E:Int) - L):=by
 have hp:=Yj p
 have bH:E*2 ^ p+(2 ^ p+r)<I*2 ^ p:=by
  have:=X7 (2 ^ p) (show E+2≤I by omega);have e:(E+2)*2 ^ p=E*2 ^ p+2*2 ^ p:=Z2 ..;omega
 have Er:f.signWeight=I*2 ^ p+2 ^ p:=by rw[h.sw,Z2,Nat.one_mul]
 have hq:(E*2 ^ p+(2 ^ p+r)) % 2 ^ p=r:=by
  rw[show E*2 ^ p+(2 ^ p+r)=r+2 ^ p*(E+1) by grind,Nat.add_mul_mod_self_left,Zt hr]
 have hd:(E*2 ^ p+(2 ^ p+r)) / 2 ^ p=E+1:=by
  rw[show E*2 ^ p+(2 ^ p+r)=r+2 ^ p*(E+1) by grind,Nat.add_mul_div_left _ _ hp,Zu hr];omega
 unfold Ieee.Format.read Ieee.Format.word
 have hm:(if neg=true then f.signWeight+(E*2 ^ p+(2 ^ p+r)) else E*2 ^ p+(2 ^ p+r)) % f.signWeight=E*2 ^ p+(2 ^ p+r):=by
  cases neg
  ·simp only[XO,YC];exact Zt (by omega)
  ·simp only[Yp];rw[Nat.add_mod_left];exact Zt (by omega)
 have hs:((if neg=true then f.signWeight+(E*2 ^ p+(2 ^ p+r)) else E*2 ^ p+(2 ^ p+r)) / f.signWeight % 2==1)=neg:=by
  cases neg
  ·simp only[XO,YC];rw[Zu (by omega)];rfl
  ·simp only[Yp];rw[Nat.add_div_left _ (by omega),Zu (by omega)];rfl
 simp only[hm,hs,h.bn,h.inf,h.lp];rw[Xr (by omega),Xu bH,hq,hd];congr 1;omega
theorem yj(h:Fm f p L I)(neg:Bool):f.read (f.word neg 0)=.number neg 0 (-(L:Int)):=by
 have hp:=Yj p;have Er:f.signWeight=I*2 ^ p+2 ^ p:=by rw[h.sw,Z2,Nat.one_mul]
 unfold Ieee.Format.read Ieee.Format.word;have hm:(if neg=true then f.signWeight+0 else 0) % f.signWeight=0:=by cases neg<;>simp
 have hs:((if neg=true then f.signWeight+0 else 0) / f.signWeight % 2==1)=neg:=by
  cases neg
  ·simp
  ·simp only[Yp,YI];rw[Nat.div_self (by omega)];rfl
 simp only[hm,hs,h.bn,h.lp];rw[Xu hp]
theorem eZ(h:Fm f p L I)(neg:Bool){n:Nat}(bH:n<2 ^ (p+1)):∃k:Nat,f.read (f.nearest neg n 0)=.number neg (n*2 ^ k) (-(k:Int)):=by
 by_cases hn:n=0
 ·subst hn
  rw[fR];exact⟨L,by rw[yj h,ZV]⟩
 ·have hle:=pF (by omega) bH
  have h0:=pD h neg 0 (n:=n) (by omega) bH;rw[Zg,YA]at h0;have QV:=h.pl;have hli:=h.li;have hp:=Yj p
  have g1:2 ^ p≤n*2 ^ (p - n.log2):=by
   have:=X7 (2 ^ (p - n.log2)) (Nat.log2_self_le hn)
   rwa [<-YN,show n.log2+(p - n.log2)=p by omega]at this
  have g2:n*2 ^ (p - n.log2)<2 ^ p+2 ^ p:=by
   have:=Zr (Nat.lt_log2_self (n:=n)) (Yj (p - n.log2));rw[<-YN,show n.log2+1+(p - n.log2)=p+1 by omega,ZC]at this;omega
  obtain⟨r,hr⟩:∃r,n*2 ^ (p - n.log2)=2 ^ p+r:=⟨n*2 ^ (p - n.log2) - 2 ^ p,by omega⟩
  refine⟨p - n.log2,?_⟩
  have U6:min ((L+n.log2 - p)*2 ^ p+n*2 ^ (p - n.log2)) (I*2 ^ p)=(L+n.log2 - p)*2 ^ p+(2 ^ p+r):=by
   rw[hr];have:=X7 (2 ^ p) (show L+n.log2 - p+2≤I by omega);rw[Z2]at this;omega
  rw[show f.nearest neg n 0=_ from h0,U6,yn h neg (by omega) (by omega),hr];congr 1;omega
theorem ji(a:Int)(k K:Nat)(h:k≤K):Ieee.signed (decide (a<0)) (a.natAbs*2 ^ k) (-(k:Int) - -(K:Int)).toNat=a*2 ^ K:=by
 have e:(-(k:Int) - -(K:Int)).toNat=K - k:=by omega
 unfold Ieee.signed;rw[e,Y9,YU,<-YN,show k+(K - k)=K by omega]
 by_cases ha:a<0
 ·rw[X5 ha,Xu rfl,Zo,Int.natCast_pow,show ((a.natAbs:Nat):Int) = -a by omega]
  simp[Int.neg_mul]
 ·rw[XV ha,Xr (by simp),Zo,Int.natCast_pow,show ((a.natAbs:Nat):Int)=a by omega];rfl
theorem ql(K:Nat):(0:Int)<2 ^ K:=Int.pow_pos (by omega)
def wd(f:Ieee.Format)(a:Int):Nat:=f.nearest (decide (a<0)) a.natAbs 0
def W8(p:Nat)(a:Int):Prop:=a.natAbs<2 ^ (p+1)
theorem LO(h:Fm f p L I){a b:Int}(ha:W8 p a)(hb:W8 p b):f.order (wd f a) (wd f b)=some (compare a b):=by
 obtain⟨k,hk⟩:=eZ h (decide (a<0)) ha;obtain⟨j,hj⟩:=eZ h (decide (b<0)) hb;unfold Ieee.Format.order wd;rw[hk,hj];simp only[Ieee.Datum.order,XS];obtain⟨K,hK⟩:∃K:Nat,K=max k j:=⟨_,rfl⟩
 have J9:min (-(k:Int)) (-(j:Int)) = -(K:Int):=by omega
 rw[J9,ji a k K (by omega),ji b j K (by omega)];have hp:=ql K
 rcases Int.lt_trichotomy a b with q|q|q
 ·rw[Zl.2 q,Zl.2 (YO q hp)]
 ·subst q;simp
 ·rw[Zm.2 q,Zm.2 (YO q hp)]
theorem Kz(h:Fm f p L I){a:Int}(ha:W8 p a):(f.read (wd f a)).toInt .zero=some a:=by
 obtain⟨k,hk⟩:=eZ h (decide (a<0)) ha;unfold wd;rw[hk];unfold Ieee.Datum.toInt Ieee.Datum.integral;have e1:(-(k:Int)).toNat=0:=by omega
 have e2:(- -(k:Int)).toNat=k:=by omega
 simp only[e1,e2,Nat.shiftLeft_zero,N5,XS];unfold Ieee.signed
 by_cases q:a<0
 ·rw[X5 q,Xu rfl,Nat.shiftLeft_zero];omega
 ·rw[XV q,Xr (by simp),Nat.shiftLeft_zero];omega
def rq(n:Int):Prop:=n.natAbs<2 ^ 24
theorem wH{n:Int}(h1 : -16777215≤n)(h2:n≤16777215):rq n:=by unfold rq;omega
theorem Rm{a b:Int}(ha:rq a)(hb:rq b):FloatKind.f32.format.order (FloatKind.f32.nearest a) (FloatKind.f32.nearest b)=some (compare a b):=LO H3 ha hb
theorem AQ{a:Int}(ha:rq a):floatToIntVal .f32 (FloatKind.f32.nearest a) .i64=some a:=by
 unfold floatToIntVal;have h:(FloatKind.f32.decode (FloatKind.f32.nearest a)).toInt .zero=some a:=Kz H3 ha;rw[h]
 have h1:IntKind.i64.min≤a∧a≤IntKind.i64.max:=by
  unfold rq at ha;show (-9223372036854775808:Int)≤a∧a≤9223372036854775807
  omega
 show (if IntKind.i64.min≤a∧a≤IntKind.i64.max then some a else none)=some a
 rw[Xu h1]
theorem E0(a:Int)(k K:Nat)(h:k≤K):Ieee.signed (!(decide (a<0))) (a.natAbs*2 ^ k) (-(k:Int) - -(K:Int)).toNat = -(a*2 ^ K):=by
 have e:=ji a k K h;unfold Ieee.signed at e ⊢
 by_cases ha:a<0
 ·rw[X5 ha,Xu rfl]at e
  rw[X5 ha,Xr (by simp)];omega
 ·rw[XV ha,Xr (by simp)]at e
  rw[XV ha,Xu (by simp)];omega
theorem TZ{f:Ieee.Format}{p L I:Nat}(h:Fm f p L I){a b:Int}(ha:W8 p a)(hb:W8 p b)(hc:W8 p (a - b)):f.sub (wd f a) (wd f b)=some (wd f (a - b)):=by
 obtain⟨k,hk⟩:=eZ h (decide (a<0)) ha;obtain⟨j,hj⟩:=eZ h (decide (b<0)) hb;unfold Ieee.Format.sub wd;rw[hk,hj];simp only[Ieee.Datum.opposite,Ieee.Datum.sum,XB,XS];obtain⟨K,hK⟩:∃K:Nat,K=max k j:=⟨_,rfl⟩
 have J9:min (-(k:Int)) (-(j:Int)) = -(K:Int):=by omega
 rw[J9,ji a k K (by omega),E0 b j K (by omega),<-Int.sub_eq_add_neg,<-Int.sub_mul];have hp:=ql K;have hna:((a - b)*2 ^ K).natAbs=(a - b).natAbs*2 ^ K:=by rw[Int.natAbs_mul,Int.natAbs_pow];rfl
 have hz:((a - b)*2 ^ K=0)↔a - b=0:=by rw[Int.mul_eq_zero];constructor<;>intro q<;>omega
 have az5:((a - b)*2 ^ K<0)↔a - b<0:=by
  constructor
  ·intro q
   by_cases q2:a - b<0
   ·exact q2
   ·have:=X2 (show 0≤a - b by omega) (Int.le_of_lt hp);omega
  ·intro q;exact Int.mul_neg_of_neg_of_pos q hp
 unfold Ieee.Format.write;simp only[hna]
 by_cases hs:a - b=0
 ·rw[Xu (hz.2 hs),hs]
  have:(decide (a<0) && !decide (b<0))=false:=by
   by_cases q:a<0
   ·rw[X5 (show b<0 by omega)];simp
   ·rw[XV q];rfl
  rw[this];simp[fR]
 ·rw[Xr (λq=>hs (hz.1 q)),xo h _ K hc]
  congr 1;exact YY.2 az5
theorem Rl{a b:Int}(ha:rq a)(hb:rq b)(hc:rq (a - b)):floatBits .sub .f32 (FloatKind.f32.nearest a) (FloatKind.f32.nearest b)=some (FloatKind.f32.nearest (a - b)):=TZ H3 ha hb hc
theorem AP{a:Int}(ha:rq a):ordB .neq (FloatKind.f32.format.order (FloatKind.f32.nearest a) (FloatKind.f32.nearest a))=false:=by
 rw[Rm ha ha];have:compare a a=.eq:=by simp
 rw[this];rfl
theorem Sl:Ieee.single.read 1266679808=.number false 8388608 1:=by decide +kernel
theorem Sk:Ieee.single.read 3414163456=.number true 8388608 1:=by decide +kernel
theorem LA(k:Nat):((8388608 <<< ((1:Int) - -(k:Int)).toNat:Nat):Int)=16777216*2 ^ k:=by
 have e:((1:Int) - -(k:Int)).toNat=k+1:=by omega
 rw[e,Y9,ZC,Zo,Zo,Int.natCast_pow];show (8388608:Int)*(2 ^ k*2)=_
 grind
theorem Rp{n:Int}(h:rq n):ordB .geq (FloatKind.f32.format.order (FloatKind.f32.nearest n) 1266679808)=false:=by
 obtain⟨k,hk⟩:=eZ H3 (decide (n<0)) h;show ordB .geq ((Ieee.single.read (wd Ieee.single n)).order (Ieee.single.read 1266679808))=false
 unfold wd;rw[hk,Sl];simp only[Ieee.Datum.order];have hb:min (-(k:Int)) 1 = -(k:Int):=by omega
 rw[hb,ji n k k (Xw _)];have e:Ieee.signed false 8388608 ((1:Int) - -(k:Int)).toNat=16777216*2 ^ k:=LA k;rw[e];have hp:=ql k;have bH:n*2 ^ k<16777216*2 ^ k:=YO (by unfold rq at h;omega) hp;rw[Zl.2 bH];rfl
theorem Ro{n:Int}(h:rq n):ordB .leq (FloatKind.f32.format.order (FloatKind.f32.nearest n) 3414163456)=false:=by
 obtain⟨k,hk⟩:=eZ H3 (decide (n<0)) h;show ordB .leq ((Ieee.single.read (wd Ieee.single n)).order (Ieee.single.read 3414163456))=false
 unfold wd;rw[hk,Sk];simp only[Ieee.Datum.order];have hb:min (-(k:Int)) 1 = -(k:Int):=by omega
 rw[hb,ji n k k (Xw _)];have e:Ieee.signed true 8388608 ((1:Int) - -(k:Int)).toNat = -(16777216*2 ^ k):=by rw[<-LA k];rfl
 rw[e];have hp:=ql k;have bH:(-16777216)*2 ^ k<n*2 ^ k:=YO (by unfold rq at h;omega) hp;have hgt : -(16777216*2 ^ k)<n*2 ^ k:=by rw[<-Int.neg_mul];exact bH
 rw[Zm.2 hgt];rfl
def KK:Nat:=1100
theorem TI:1100≤KK:=Xw _
def QQ:Nat:=2 ^ KK
theorem sX:0<QQ:=Yj _
def jh(f:Ieee.Format)(b:Nat)(s:Bool)(M:Nat):Prop:=∃(m:Nat) (e:Int),f.read b=.number s m e∧-(KK:Int)≤e∧m*2 ^ (e+KK).toNat=M
def fi(s:Bool)(M:Nat):Int:=if s then -(M:Int) else M
theorem sy(s:Bool)(m u:Nat):Ieee.signed s m u=fi s (m*2 ^ u):=by unfold Ieee.signed fi;rw[Y9]
theorem zG(s:Bool)(M q:Nat):fi s (M*q)=fi s M*(q:Int):=by unfold fi;cases s<;>simp[Zo,Int.neg_mul]
theorem uY(s:Bool)(M:Nat):(fi s M).natAbs=M:=by unfold fi;cases s<;>simp
theorem Rx(a b:Int){q:Nat}(h:0<q):compare (a*(q:Int)) (b*(q:Int))=compare a b:=by
 have hp:(0:Int)<q:=by omega
 rcases Int.lt_trichotomy a b with h|h|h
 ·rw[Zl.2 h,Zl.2 (YO h hp)]
 ·subst h;simp
 ·rw[Zm.2 h,Zm.2 (YO h hp)]
theorem jl{a b:Nat}{s t:Bool}{M N:Nat}(ha:jh f a s M)(hb:jh f b t N):f.order a b=some (compare (fi s M) (fi t N)):=by
 obtain⟨m,i,h1,h2,rfl⟩:=ha;obtain⟨n,j,h3,h4,rfl⟩:=hb;unfold Ieee.Format.order;rw[h1,h3];simp only[Ieee.Datum.order,XS];obtain⟨c,hc⟩:∃c:Nat,c=(min i j+KK).toNat:=⟨_,rfl⟩
 have e1:(i+KK).toNat=(i - min i j).toNat+c:=by omega
 have e2:(j+KK).toNat=(j - min i j).toNat+c:=by omega
 rw[sy,sy,e1,e2,YN,YN,<-YU,<-YU,zG _ _ (2 ^ c),zG _ _ (2 ^ c),Rx _ _ (Yj c)]
theorem zt{b:Nat}{s:Bool}{M:Nat}(h:jh f b s M):f.sub b b=some 0:=by
 obtain⟨m,e,h1,-,-⟩:=h;unfold Ieee.Format.sub;rw[h1];have ht:∀u,Ieee.signed s m u+Ieee.signed (!s) m u=0:=by intro u;unfold Ieee.signed;cases s<;>simp<;>omega
 simp only[Ieee.Datum.opposite,Ieee.Datum.sum,XB,XS,ht];simp[Ieee.Format.write,fR,Ieee.Format.word]
theorem GW{b:Nat}{s:Bool}(h:f.read b=.infinity s):f.sub b b=none:=by
 unfold Ieee.Format.sub;rw[h]
 cases s<;>rfl
theorem aF9(neg:Bool)(n d:Nat):Ieee.Toward.zero.cut neg n d=n / 2 ^ d:=by
 unfold Ieee.Toward.cut;simp only[Nat.one_shiftLeft,Bool.toNat_false,YI]
 by_cases h:d≤n.log2+2
 ·rw[Nat.min_eq_left h]
 ·rw[Nat.min_eq_right (by omega)]
  have h1:n<2 ^ (n.log2+2):=XD Nat.lt_log2_self (ZR (by omega) (by omega));rw[Zu h1,Zu (XD h1 (ZR (by omega) (by omega)))]
theorem IC{b:Nat}{s:Bool}{M:Nat}(h:jh f b s M):(f.read b).toInt .zero=some (fi s (M / QQ)):=by
 obtain⟨m,e,h1,h2,rfl⟩:=h;rw[h1];unfold Ieee.Datum.toInt Ieee.Datum.integral;simp only[aF9];rw[sy,Zg,YA,Y9];congr 2;unfold QQ
 by_cases he:0≤e
 ·have e1:(-e).toNat=0:=by omega
  have e2:(e+KK).toNat=e.toNat+KK:=by omega
  rw[e1,e2,Zg,Nat.div_one,YN,<-YU,Nat.mul_div_cancel _ (Yj _)]
 ·have e1:e.toNat=0:=by omega
  obtain⟨u,hu⟩:∃u:Nat,u=(e+KK).toNat:=⟨_,rfl⟩
  obtain⟨v,hv⟩:∃v:Nat,v=(-e).toNat:=⟨_,rfl⟩
  have e2:KK=u+v:=by omega
  rw[e1,Zg,YA,<-hu,<-hv,e2,YN,YW m,Nat.mul_div_mul_left _ _ (Yj _)]
theorem Cl (h : Fm f p L I) (neg : Bool) {n : Nat} (j : Nat) (e : Int) (hn : 0 < n) (bH : n < 2 ^ (p + 1)) (he : (p : Int) ≤ e + j + n.log2 + L) :
  f.nearest neg (n*2 ^ j) e=f.word neg (min ((e+j+n.log2+L - p).toNat*2 ^ p+n*2 ^ (p - n.log2)) (I*2 ^ p)):=by
 have hl:=qB (d:=j) (show n≠0 by omega);have hle:=pF hn bH;have hK:=Yj j;unfold Ieee.Format.nearest;rw[Xr (ZB (by omega) (by omega)),hl,h.fb,h.lp,h.bn,h.inf];simp only;have MV:max (e+((n.log2+j:Nat):Int) - (p:Int)) (-(L:Int))=e+j+n.log2 - p:=by omega
 rw[MV];congr 2;have e1:(e+j+(n.log2:Int) - p - -(L:Int)).toNat=(e+j+n.log2+L - p).toNat:=by omega
 rw[e1];congr 1
 by_cases hk:j≤p - n.log2
 ·have e2:(e - (e+j+(n.log2:Int) - p)).toNat=p - n.log2 - j:=by omega
  have e3:(e+j+(n.log2:Int) - p - e).toNat=0:=by omega
  rw[e2,e3,Y9,YU,<-YN,show j+(p - n.log2 - j)=p - n.log2 by omega];have:=ry (neg:=neg) (c:=n*2 ^ (p - n.log2)) (d:=0) (ZB (by omega) (by have:=Yj (p - n.log2);omega))
  rwa [Zg,YA]at this
 ·have e2:(e - (e+j+(n.log2:Int) - p)).toNat=0:=by omega
  have e3:(e+j+(n.log2:Int) - p - e).toNat=j - (p - n.log2):=by omega
  rw[e2,e3,Y9,Zg,YA];have e4:n*2 ^ j=n*2 ^ (p - n.log2)*2 ^ (j - (p - n.log2)):=by rw[YU,<-YN,show p - n.log2+(j - (p - n.log2))=j by omega]
  rw[e4];exact ry (ZB (by omega) (by have:=Yj (p - n.log2);omega))
theorem vw (h : Fm f p L I) (neg : Bool) {n : Nat} (j : Nat) (e : Int) (bH : n < 2 ^ (p + 1)) (hL : L ≤ KK) (he0 : -(KK : Int) ≤ e) (he : 0 < n -> (p : Int) ≤ e + j + n.log2 + L) (he2 : 0 < n -> e + j + n.log2 + L + 2 ≤ I + p) :
  jh f (f.nearest neg (n*2 ^ j) e) neg (n*2 ^ j*2 ^ (e+KK).toNat):=by
 by_cases hn:n=0
 ·subst hn
  rw[ZV,fR];exact⟨0,_,yj h neg,by omega,by rw[ZV,ZV]⟩
 ·have SM:0<n:=by omega
  have hle:=pF SM bH;have Vn:=he SM;have aI3:=he2 SM;have hli:=h.li;have hp:=Yj p;rw[Cl h neg j e SM bH Vn]
  have g1:2 ^ p≤n*2 ^ (p - n.log2):=by
   have:=X7 (2 ^ (p - n.log2)) (Nat.log2_self_le hn)
   rwa [<-YN,show n.log2+(p - n.log2)=p by omega]at this
  have g2:n*2 ^ (p - n.log2)<2 ^ p+2 ^ p:=by
   have:=Zr (Nat.lt_log2_self (n:=n)) (Yj (p - n.log2));rw[<-YN,show n.log2+1+(p - n.log2)=p+1 by omega,ZC]at this;omega
  obtain⟨r,hr⟩:∃r,n*2 ^ (p - n.log2)=2 ^ p+r:=⟨n*2 ^ (p - n.log2) - 2 ^ p,by omega⟩
  obtain⟨E,hE⟩:∃E:Nat,E=(e+j+n.log2+L - p).toNat:=⟨_,rfl⟩
  have U6:min (E*2 ^ p+n*2 ^ (p - n.log2)) (I*2 ^ p)=E*2 ^ p+(2 ^ p+r):=by
   rw[hr];have:=X7 (2 ^ p) (show E+2≤I by omega);rw[Z2]at this;omega
  rw[<-hE,U6];refine⟨2 ^ p+r,(E:Int) - L,yn h neg (by omega) (by omega),by omega,?_⟩;rw[<-hr,YU,YU,<-YN,<-YN];congr 2;omega
theorem qh(h:Fm f p L I){b:Nat}{s:Bool}{m:Nat}{e:Int}(hr:f.read b=.number s m e):m<2 ^ (p+1)∧-(L:Int)≤e∧e+L+2≤I:=by
 have hp:=Yj p;have hli:=h.li;unfold Ieee.Format.read at hr;simp only[h.bn,h.inf,h.lp]at hr;obtain⟨r,Js⟩:∃r,r=b % f.signWeight:=⟨_,rfl⟩
 rw[<-Js]at hr;rw[ZC]
 by_cases h1:r<2 ^ p
 ·rw[Xu h1]at hr
  injection hr with _ e1 e2
  omega
 ·rw[Xr h1]at hr
  by_cases h2:r<I*2 ^ p
  ·rw[Xu h2]at hr
   injection hr with _ e1 e2
   have h3:r / 2 ^ p<I:=Nat.div_lt_of_lt_mul (by rw[YW];exact h2);have h4:1≤r / 2 ^ p:=(Nat.one_le_div_iff hp).2 (by omega);have h5:=Zp r hp;omega
  ·rw[Xr h2]at hr
   by_cases h3:r=I*2 ^ p
   ·rw[Xu h3]at hr;cases hr
   ·rw[Xr h3]at hr;cases hr
theorem vv(h:Fm f p L I)(hL:L≤KK){b:Nat}{s:Bool}{m:Nat}{e:Int}(hr:f.read b=.number s m e):jh f b s (m*2 ^ (e+KK).toNat):=
 ⟨m,e,hr,by have:=(qh h hr).2.1;omega,rfl⟩
theorem Fy(h:Fm f p L I)(hL:L≤KK){a:Int}(ha:a.natAbs<2 ^ (p+1)):jh f (wd f a) (decide (a<0)) (a.natAbs*QQ):=by
 have QV:=h.pl;have hli:=h.li;have:=vw h (decide (a<0)) 0 0 ha hL (by omega) (λ_=>by omega) (λh0=>by have:=pF h0 ha;omega);rw[Zg,YA,show ((0:Int)+KK).toNat=KK by omega]at this;exact this
theorem ac3(a:Int)(Q:Nat):fi (decide (a<0)) (a.natAbs*Q)=a*(Q:Int):=by
 rw[zG];congr 1;unfold fi
 by_cases ha:a<0
 ·rw[X5 ha,Xu rfl];omega
 ·rw[XV ha,Xr (by simp)];omega
theorem Ov (h : Fm f p L I) (hL : L ≤ KK) {b : Nat} {s : Bool} {m : Nat} {e : Int} {M : Nat} (hr : f.read b = .number s m e) (hM : m * 2 ^ (e + KK).toNat = M) :
  jh f (wd f (fi s (M / QQ))) (decide (fi s (M / QQ)<0)) (M / QQ*QQ):=by
 obtain⟨h1,h2,h3⟩:=qh h hr;have QV:=h.pl;have hli:=h.li
 by_cases he:0≤e
 ·have e2:(e+KK).toNat=e.toNat+KK:=by omega
  have hq:M / QQ=m*2 ^ e.toNat:=by
   rw[<-hM,e2,YN,<-YU];exact Nat.mul_div_cancel _ sX
  have:=vw h (decide (fi s (M / QQ)<0)) e.toNat 0 h1 hL (by omega) (λ_=>by omega) (λh0=>by have:=pF h0 h1;omega);rw[show ((0:Int)+KK).toNat=KK by omega,<-hq]at this;unfold wd;rw[uY];exact this
 ·have bH : M / QQ < 2 ^ (p + 1) := by
   refine Nat.lt_of_le_of_lt ?_ h1;refine Nat.div_le_of_le_mul ?_;rw[<-hM,YW QQ];exact Nat.mul_le_mul_left _ (ZR (by omega) (by omega))
  have:=Fy h hL (a:=fi s (M / QQ)) (by rw[uY];exact bH)
  rwa [uY]at this
theorem PZ(s:Bool)(N Q:Nat):fi (decide (fi s N<0)) (N*Q)=fi s (N*Q):=by
 have:=ac3 (fi s N) Q;rw[uY]at this;rw[this,<-zG]
theorem ac4{s:Bool}{M N:Nat}:fi s M=fi s N↔M=N:=by unfold fi;cases s<;>simp<;>omega
theorem DU(h:Fm f p L I)(hL:L≤KK){b:Nat}{s:Bool}{m:Nat}{e:Int}{M:Nat}(hr:f.read b=.number s m e)(hM:m*2 ^ (e+KK).toNat=M) :
  (f.order (wd f (fi s (M / QQ))) b==some .eq)=decide (M % QQ=0):=by
 have hb:=vv h hL hr;rw[hM]at hb;rw[jl (Ov h hL hr hM) hb,PZ];have hd:=Nat.div_add_mod M QQ;rw[YW]at hd
 by_cases h0:M % QQ=0
 ·have e1:M / QQ*QQ=M:=by omega
  rw[e1,X5 h0];simp
 ·rw[XV h0]
  have:fi s (M / QQ*QQ)≠fi s M:=λq=>h0 (by have:=ac4.1 q;omega)
  rcases Int.lt_or_gt_of_ne this with q|q
  ·rw[Zl.2 q];rfl
  ·rw[Zm.2 q];rfl
theorem y5(h:Fm f p L I){b:Nat}{s:Bool}{m:Nat}{e:Int}{M:Nat}(hr:f.read b=.number s m e)(hM:m*2 ^ (e+KK).toNat=M)(hB:2 ^ (p+1)*QQ≤M):M % QQ=0:=by
 obtain⟨h1,h2,h3⟩:=qh h hr
 by_cases he:0≤e
 ·have e2:(e+KK).toNat=e.toNat+KK:=by omega
  rw[<-hM,e2,YN,<-YU];exact Nat.mul_mod_left _ _
 ·exfalso
  have h4:m*2 ^ (e+KK).toNat≤m*QQ:=Nat.mul_le_mul_left _ (ZR (by omega) (by omega));have h5:m*QQ<2 ^ (p+1)*QQ:=Zr h1 sX;omega
theorem LS:149≤KK:=by have:=TI;omega
theorem LD:1074≤KK:=by have:=TI;omega
theorem Rw(s:Bool):Ieee.double.read (Ieee.double.write (.infinity s))=.infinity s:=by cases s<;>decide +kernel
theorem Kk{b:Nat}{s:Bool}{m:Nat}{e:Int}(hr:Ieee.single.read b=.number s m e):∃b',floatToFloatBits .f32 b .f64=some b'∧∃m' e',Ieee.double.read b'=.number s m' e'∧m'*2 ^ (e'+KK).toNat=m*2 ^ (e+KK).toNat:=by
 obtain⟨h1,h2,h3⟩:=qh H3 hr;have hLD:=LD;have hx:=vw fmD s 0 e (n:=m) (Nat.lt_trans h1 (by decide)) hLD (by omega) (λ_=>by omega) (λh0=>by have:=pF h0 h1;omega);rw[Zg,YA]at hx;obtain⟨m',e',h4,h5,h6⟩:=hx;refine⟨Ieee.double.nearest s m e,?_,m',e',h4,h6⟩;unfold floatToFloatBits;have hd:FloatKind.f32.decode b=.number s m e:=hr;have he:FloatKind.f64.encode (.number s m e)=Ieee.double.nearest s m e:=rfl
 have hi:(FloatKind.f64.decode (Ieee.double.nearest s m e)).isInfinity=false:=by
  show (Ieee.double.read (Ieee.double.nearest s m e)).isInfinity=false
  rw[h4];rfl
 rw[Xr (by decide),hd];simp only[he,hi];rfl
theorem Kl{b:Nat}{s:Bool}(hr:Ieee.single.read b=.infinity s):∃b',floatToFloatBits .f32 b .f64=some b'∧Ieee.double.read b'=.infinity s:=by
 refine⟨Ieee.double.write (.infinity s),?_,Rw s⟩;unfold floatToFloatBits;have hd:FloatKind.f32.decode b=.infinity s:=hr;rw[Xr (by decide),hd];rfl
def P1(M:Nat):Int:=if 16777216*QQ≤M then 2 else if M % QQ≠0 then 25 else if 2047*QQ<M then 2 else 0
def sE(b:Nat):Int:=
 match Ieee.single.read b with
 | .number _ m e=>P1 (m*2 ^ (e+KK).toNat)
 | _=>25
theorem L6:jh Ieee.single 1266679808 false (16777216*QQ):=⟨8388608,1,Sl,by omega,by
 rw[show ((1:Int)+KK).toNat=KK+1 by omega,ZC];have e:2 ^ KK=QQ:=rfl
 rw[e];generalize QQ=q;omega⟩
theorem L4:jh Ieee.single 3414163456 true (16777216*QQ):=⟨8388608,1,Sk,by omega,by
 rw[show ((1:Int)+KK).toNat=KK+1 by omega,ZC];have e:2 ^ KK=QQ:=rfl
 rw[e];generalize QQ=q;omega⟩
theorem nC(a b:Int):(some (compare a b)==some .eq)=decide (a=b)∧(some (compare a b)==some .lt)=decide (a<b)∧(some (compare a b)==some .gt)=decide (b<a):=by
 rcases Int.lt_trichotomy a b with h|h|h
 ·rw[Zl.2 h,XV (by omega),X5 h,XV (by omega)];decide
 ·rw[Int.compare_eq_eq.2 h,X5 h,XV (by omega),XV (by omega)];decide
 ·rw[Zm.2 h,XV (by omega),XV (by omega),X5 h];decide
theorem Fw{a b:Nat}{s t:Bool}{M N:Nat}(ha:jh f a s M)(hb:jh f b t N):ordB .geq (f.order a b)=decide (fi t N≤fi s M):=by
 rw[jl ha hb];obtain⟨h1,h2,h3⟩:=nC (fi s M) (fi t N);unfold ordB;simp only[h1,h3];rw[<-Bool.decide_or];exact YY.2 (by omega)
theorem Fv{a b:Nat}{s t:Bool}{M N:Nat}(ha:jh f a s M)(hb:jh f b t N):ordB .leq (f.order a b)=decide (fi s M≤fi t N):=by
 rw[jl ha hb];obtain⟨h1,h2,h3⟩:=nC (fi s M) (fi t N);unfold ordB;simp only[h1,h2];rw[<-Bool.decide_or];exact YY.2 (by omega)
theorem UK{a b:Nat}{s t:Bool}{M N:Nat}(ha:jh f a s M)(hb:jh f b t N):ordB .lss (f.order a b)=decide (fi s M<fi t N):=by
 rw[jl ha hb];exact(nC _ _).2.1
theorem UL{a b:Nat}{s t:Bool}{M N:Nat}(ha:jh f a s M)(hb:jh f b t N):ordB .gtr (f.order a b)=decide (fi t N<fi s M):=by
 rw[jl ha hb];exact(nC _ _).2.2
theorem zZ{a:Nat}{s:Bool}{M:Nat}(ha:jh f a s M):ordB .neq (f.order a a)=false:=by
 rw[jl ha ha];have:=(nC (fi s M) (fi s M)).1;unfold ordB;rw[bne,this];simp
theorem jj(n lo hi:Int):PC qP 163 [.v (.int .i64 (n)),.v (.int .i64 (lo)),.v (.int .i64 (hi))] (.v (.bool (dP lo n hi))):=by
 refine av (qA Tryz.func163 rfl) rfl Tryz.ntmps163 (rs:=[.tmp 6]) Tryz.results163 (by simp) λw0=>?_;refine ae (xa 1 (aa aA (rs (xa 9 (aa aF (aa aF (aa (iG rfl rfl) (aa aF (aE rfl rfl (λhG=>aF) (aE rfl rfl (λhG=>aF) (aE rfl rfl (λhG=>(iG rfl rfl)) (aT rfl rfl rfl rfl rfl rfl ?_))))))))))));refine aa aA (xc (ah ?_));refine⟨_,cS,?_⟩;simp only[gX];rfl
theorem BU(n m:Int)(h1:0≤m)(h2:m≤1000000000000):PC qP 176 [.v (.int .i64 (n)),.v (.int .i64 (m))] (.v (.bool (dP (-m) n m))):=by
 refine av (qA Tryz.func176 rfl) rfl Tryz.ntmps176 (rs:=[.tmp 4]) Tryz.results176 (by simp) λw0=>?_;refine ae (xa 1 (aa aA (rs (xa 6 (aa aF (aa aF ?_))))));refine aa (tw rfl xi) (aa aF (aa (ak yY (.cons rfl (.cons rfl (.cons rfl .nil))) rfl (jj _ _ _)) (aa aA (xc (ah ?_)))));refine⟨_,cS,?_⟩;rfl
def g9(b:Bool)(e:Int):Int:=if b=true then 0 else e
theorem vz(b:Bool)(e:Int):PC qP 162 [.v (.bool (b)),.v (.int .i64 (e))] (.v (.int .i64 (g9 b e))):=by
 refine av (qA Tryz.func162 rfl) rfl Tryz.ntmps162 (rs:=[.tmp 4]) Tryz.results162 (by simp) λw0=>?_;refine ae (xa 1 (aa aA (rs (ae (xa 1 (aa aF (xc (ao rfl (λbW=>?_) (λbW=>?_)))))))))
 ·
  (try simp only[nb,Xv]at bW)
  have hz:g9 b e=0:=by unfold g9;rw[Xu bW]
  refine ae (xa 1 (aa aA (xc (ah ?_))));refine⟨_,cS,?_⟩;rw[hz];rfl
 ·
  (try simp only[nb,Xv]at bW)
  have hz:g9 b e=e:=by unfold g9;rw[Xr (by simpa using bW)]
  refine wO ?_;change Awp _ _ _ _ _;refine ae (xa 2 (aa aF (aa aA (xc (ah ?_)))));refine⟨_,cS,?_⟩;rw[hz];rfl
theorem vc(l:List Int):PC qP 156 [.sl 1 (l.map iC)] (.v (.int .i64 (firstE l))):=by
 refine av (qA Tryz.func156 rfl) rfl Tryz.ntmps156 (rs:=[.tmp 2]) Tryz.results156 (by simp) λw0=>?_;refine ae (xa 1 (aa aA (rs (ae (xa 3 (aa (aq (x:=.d (.sl _ _)) rfl) (aa (cd FK rfl (by exact aV _ _)) (aa aF (xc (bm (t:=5) rfl (λQ1=>?_)))))))))))
 (try simp only[Xo]at Q1)
 refine az (bG [2,4,7,8,9,10,11,12,13,14] [] (α:=Nat) (λk=>[(7,T.i (k:Int))]) (λk=>[]) (λk=>k≤l.length∧firstE l=firstE (l.drop k)) (λk=>l.length - k) 0 ⟨XC _,rfl⟩ ?_ ?_)
 ·exact xh (ms:=[]) (by repeat (exact Out.refl _)) ⟨(by rfl),trivial⟩ trivial
 ·
  intro k ⟨hk,hf⟩;refine ae (xa 1 (aa (cM rfl rfl) (rs (ao rfl (λbV=>?_) (λbV=>?_)))))
  ·
   (try simp only[nb,Xv]at bV)
   have bH:k<l.length:=by omega
   have hx:=Xp bH;have hd:firstE (l.drop k)=if l[k]=0 then firstE (l.drop (k+1)) else l[k]:=by rw[Yf bH];rfl
   generalize l[k]=x at *;refine wO ?_;change Awp _ _ _ _ _;refine ae (az (ae (xa 3 (aa (aJ oT rfl rfl (by omega) (cm (by omega) hx)) (aa (aj TY rfl rfl) (aa aA (rs (xa 2 (aa aF (aa (bS rfl rfl) (xc (ao rfl (λeJ=>?_) (λeJ=>?_)))))))))))))
   ·
    (try simp only[nb,Xv]at eJ)
    refine ae (xa 2 (aa aF (aa aA (xc (ah ?_)))));refine⟨_,cS,?_⟩;rw[hf,hd,Xr eJ];rfl
   ·
    (try simp only[nb,Xv]at eJ)
    refine wO ?_;change Awp _ _ _ _ _;refine xa 2 ?_;refine aa (bC rfl rfl xi) (aa aF (rn ?_));refine⟨k+1,⟨by omega,by rw[hf,hd,Xu eJ]⟩,by omega,?_⟩;exact xh (ms:=[]) (by repeat (first|exact Out.head rfl rfl|(refine Out.put ?_ rfl))) ⟨(by rfl),trivial⟩ trivial
  ·
   (try simp only[nb,Xv]at bV)
   refine bJ ?_;change Awp _ _ _ _ _;refine ae (xa 1 (aa aA (xc (ah ?_))));refine⟨_,cS,?_⟩;rw[hf,Yu (by omega)];rfl
theorem F7(n b:Int)(h:Sm n)(hb:0<b):PC qP 175 [.v (.int .i64 (n)),.v (.int .i64 (b))] (.v (.int .i64 (n / b))):=by
 have hq:=GU h hb;obtain⟨h1,h2⟩:=h;obtain⟨h3,h4⟩:=hq;have hl:=yV (n:=n) hb;refine av (qA Tryz.func175 rfl) rfl Tryz.ntmps175 (rs:=[.tmp 4]) Tryz.results175 (by simp) λw0=>?_;refine ae (xa 1 (aa aA (rs (xa 4 (aa aF (aa aF ?_))))));refine aa (B5 rfl rfl (by omega) xi) (aa aA (rs (ae (xa 4 (aa aF (aa aF (aa (yo rfl rfl (by omega)) (aa (cM rfl rfl) (xc (ao rfl (λbV=>?_) (λbV=>?_)))))))))))
 ·
  (try simp only[nb,Xv]at bV)
  rw[Xu bV]at hl;refine xa 3 (aa aF ?_);refine aa (dk rfl rfl xi) (aa aA (rs (xa 2 (aa aF (aa aA (xc (ah ?_)))))));refine⟨_,cS,?_⟩;rw[<-hl];rfl
 ·
  (try simp only[nb,Xv]at bV)
  rw[Xr (by omega)]at hl;refine wO ?_;change Awp _ _ _ _ _;refine ae (xa 2 (aa aF (aa aA (xc (ah ?_)))));refine⟨_,cS,?_⟩;rw[<-hl];rfl
theorem Kv(n b:Int)(h:Sm n)(hb:0<b):PC qP 173 [.v (.int .i64 (n)),.v (.int .i64 (b))] (.v (.int .i64 (pb n b))):=by
 obtain⟨h1,h2⟩:=h;have hq:=Rt (a:=-n) ⟨by omega,by omega⟩ hb;obtain⟨h3,h4⟩:=hq;refine av (qA Tryz.func173 rfl) rfl Tryz.ntmps173 (rs:=[.tmp 4]) Tryz.results173 (by simp) λw0=>?_;refine ae (xa 1 (aa aA (rs (xa 6 (aa aF ?_)))));refine aa (tw rfl xi) (aa aF ?_);refine aa (ak NL (.cons rfl (.cons rfl .nil)) rfl (F7 _ _ ⟨by omega,by omega⟩ (by omega))) ?_;refine aa (tw rfl xi) (aa aA (xc (ah ?_)));refine⟨_,cS,?_⟩;rfl
theorem u64_in{n:Int}(h0:0≤n)(h1:n≤9223372036854775807):IntKind.u64.wrap n=n:=by rw[IntKind.wrap_u64];omega
theorem UU{n:Int}(h0:0≤n)(h1:n≤9223372036854775807):IntKind.i64.wrap n=n:=IntWalk.i64_in _ ⟨by omega,by omega⟩
theorem Nn{n:Int}(h0:0≤n):(0:Int)≤1∧n.fdiv (2 ^ (min (1:Int).toNat IntKind.u64.bits))=n / 2:=⟨by omega,by rw[show min (1:Int).toNat IntKind.u64.bits=1 from by decide,Int.fdiv_eq_ediv_of_nonneg _ (by decide)];rfl⟩
theorem BS(f:Int->Bool)(g:FuncId)(cap:List D)(Vm:cA qP g=true)(n:Int)(hn:n≤4611686018427387903)(hf:∀h,0≤h->h<n->PC qP g (.v (.int .i64 h)::cap) (.v (.bool (f h)))):PC qP 178 [.v (.int .i64 (n)),.fn (.func g) cap] (.v (.int .i64 (BI f n))):=by
 refine av (qA Tryz.func178 rfl) rfl Tryz.ntmps178 (rs:=[.tmp 4]) Tryz.results178 (by simp) λw0=>?_;refine ae (xa 1 (aa aA (rs (xa 3 (aa aF (aa aA (aa aA (rs (az ?_)))))))));refine bG [5,6,7,9,10,11,12,13,14,15,16,17,18,19,20,21,22,23,24] [] (α:=Nat × Int × Int) (λx=>[(5,T.i x.2.1),(6,T.i x.2.2)]) (λx=>[]) (λx=>0≤x.2.1∧x.2.2≤n∧(x.2.2 - x.2.1<2 ^ x.1)∧BI f n=bsr f x.1 x.2.1 x.2.2) (λx=>x.1) (62,0,n) ⟨by simp,by simp,by simp only;omega,rfl⟩ ?_ ?_
 ·exact xh (ms:=[]) (by repeat (exact Out.refl _)) ⟨(by rfl),(by rfl),trivial⟩ trivial
 ·
  intro ⟨d,i,j⟩ ⟨hi,hj,hd,hh⟩;simp only at hi hj hd hh;refine ae (ae (xa 3 (aa aF (aa aF (aa (cM rfl rfl) (xc (ao rfl (λbV=>?_) (λbV=>?_))))))))
  ·
   (try simp only[nb,Xv]at bV)
   obtain⟨e,rfl⟩:∃e,d=e+1:=by cases d with
    | zero=>simp at hd;omega
    | succ e=>exact⟨e,rfl⟩
   have he:(2:Int) ^ (e+1)=2 ^ e+2 ^ e:=by rw[Int.pow_succ];omega
   have dU:=DL (f:=f) (k:=e) bV;have hfx:=hf ((i+j) / 2) (by omega) (by omega);refine wO ?_;change Awp _ _ _ _ _;refine az (ae (xa 7 (aa aF (aa aF ?_))));refine aa (bC rfl rfl (lL.mk (by (simp only;omega)) (by (simp only;omega)))) ?_;refine aa (ur l4 MF rfl (u64_in (by (simp only;omega)) (by (simp only;omega)))) ?_;refine aa (Uw rfl rfl (Nn (by (simp only;omega)))) ?_;refine aa (ur MF l4 rfl (UU (by (simp only;omega)) (by (simp only;omega)))) (aa aA (rs (xa 4 (aa (aq (x:=.d (.fn _ _)) rfl) (aa aF (aa (Hk Vm rfl (.cons rfl .nil) (hfx)) (aa (bX rfl) (xc (ao rfl (λeJ=>?_) (λeJ=>?_))))))))))
   ·
    (try simp only[nb,Xv]at eJ)
    have hq:f ((i+j) / 2)=false:=by simpa using eJ
    refine xa 3 (aa aF ?_);refine aa (bC rfl rfl (lL.mk (by (simp only;omega)) (by (simp only;omega)))) (aa aA (rn ?_));refine⟨(e,(i+j) / 2+1,j),⟨by simp only;omega,by simp only;omega,by simp only;omega,by rw[hh,dU,Xr (by rw[hq];simp)]⟩,by simp only;omega,?_⟩;exact xh (ms:=[]) (by repeat (first|exact Out.head rfl rfl|(refine Out.put ?_ rfl))) ⟨(by rfl),(by rfl),trivial⟩ trivial
   ·
    (try simp only[nb,Xv]at eJ)
    have hq:f ((i+j) / 2)=true:=by simpa using eJ
    refine xa 2 (aa aF (aa aA (rn ?_)));refine⟨(e,i,(i+j) / 2),⟨by simp only;omega,by simp only;omega,by simp only;omega,by rw[hh,dU,Xu hq]⟩,by simp only;omega,?_⟩;exact xh (ms:=[]) (by repeat (first|exact Out.head rfl rfl|(refine Out.put ?_ rfl))) ⟨(by rfl),(by rfl),trivial⟩ trivial
  ·
   (try simp only[nb,Xv]at bV)
   have hz:=DK (f:=f) (k:=d) (i:=i) (j:=j) (by omega);refine bJ ?_;change Awp _ _ _ _ _;refine ae (xa 2 (aa aF (aa aA (xc (ah ?_)))));refine⟨_,cS,?_⟩;rw[hh,hz];rfl
theorem P3(r n:Int)(h0:0≤r)(h1:r<2147483648):PC qP 188 [.v (.int .i64 (r)),.pt [.v (.int .i64 (n))] 0] (.v (.bool (decide (n<r*r)))):=by
 have m:=lX (a:=r) (b:=r) (A:=2147483648) (B:=2147483648) (by omega) (by omega) (by omega) (by omega);refine av (qA Tryz.func188 rfl) rfl Tryz.ntmps188 (rs:=[.tmp 3]) Tryz.results188 (by simp) λw0=>?_;refine ae (xa 1 (aa aA (rs (xa 6 (aa aF (aa aF ?_))))));refine aa (cZ rfl rfl xi) (aa (aj bo rfl rfl) (aa (gM rfl rfl) (aa aA (xc (ah ?_)))));refine⟨_,cS,?_⟩;rfl
theorem Uo(n:Int)(h0:0≤n)(h1:n<4611686018427387904):PC qP 186 [.v (.int .i64 (n))] (.v (.int .i64 (gk n))):=by
 have hs:=IT h0 h1;obtain⟨r1,r2,r3,r4⟩:=lq h0 h1;refine av (qA Tryz.func186 rfl) rfl Tryz.ntmps186 (rs:=[.tmp 2]) Tryz.results186 (by simp) λw0=>?_;refine ae (xa 2 (aa (aP rfl (by exact .inl rfl)) (aa aA (rs (xa 4 (aa (jw (.cons rfl .nil)) (aa (ak Tb (.cons rfl (.cons rfl .nil)) rfl (BS (λr=>decide (n<r*r)) 188 [.pt [.v (.int .i64 n)] 0] an5 2147483648 (by omega) (λh a b=>P3 h n a b))) ?_)))))));refine aa (dk rfl rfl xi) (aa aA (xc (ah ?_)));refine⟨_,cS,?_⟩;rw[<-hs];rfl
theorem pG{x z:Int}(h1 : -200000≤x)(h2:x≤200000)(h3 : -200000≤z)(h4:z≤200000):0≤x*x∧x*x≤40000000000∧0≤z*z∧z*z≤40000000000:=by
 have sq:∀t:Int,-200000≤t->t≤200000->0≤t*t∧t*t≤40000000000:=λt a b=>by
  have m:=lX (a:=t) (b:=t) (A:=200000) (B:=200000) (by omega) (by omega) (by omega) (by omega);refine⟨?_,by omega⟩
  rcases Int.le_total 0 t with q|q
  ·exact X2 q q
  ·have:=X2 (show 0≤-t by omega) (show 0≤-t by omega)
   rwa [Int.neg_mul_neg]at this
 exact⟨(sq x h1 h2).1,(sq x h1 h2).2,(sq z h3 h4).1,(sq z h3 h4).2⟩
structure OQ(r:Rg):Prop where
 a:0≤r.1
 b:r.1≤400000000
 c:0≤r.2
 d:r.2≤400000000
 e:r.1≤r.2
theorem Ae{x z:Int}(h1 : -200000≤x)(h2:x≤200000)(h3 : -200000≤z)(h4:z≤200000):OQ (oI x z):=by
 obtain⟨b1,b2,b3,b4⟩:=pG h1 h2 h3 h4;obtain⟨r1,r2,r3,r4⟩:=lq (n:=1000000*(x*x+z*z)) (by omega) (by omega);have h5:gk (1000000*(x*x+z*z))<300000000:=Sc (by omega) (by omega);unfold oI;refine⟨r1,by simp only;omega,?_,?_,?_⟩<;>simp only<;>split<;>omega
theorem Ct(x z:Int)(h1 : -200000≤x)(h2:x≤200000)(h3 : -200000≤z)(h4:z≤200000):PC qP 182 [.v (.int .i64 (x)),.v (.int .i64 (z))] (.agg [.v (.int .i64 ((oI x z).1)),.v (.int .i64 ((oI x z).2))]):=by
 obtain⟨b1,b2,b3,b4⟩:=pG h1 h2 h3 h4;obtain⟨r1,r2,r3,r4⟩:=lq (n:=1000000*(x*x+z*z)) (by omega) (by omega);have r5:=X2 r1 r1;refine av (qA Tryz.func182 rfl) rfl Tryz.ntmps182 (rs:=[.cell 4 76]) Tryz.results182 (by simp) λw0=>?_;refine ae (xa 0 (aw (aD gv rfl rfl rfl (ai (xq (xa 9 (aa aF (aa aF ?_))))))));refine aa (cZ rfl rfl xi) (aa aF (aa aF ?_));refine aa (cZ rfl rfl xi) ?_;refine aa (bC rfl rfl xi) ?_;refine aa (cZ rfl rfl xi) (aa aA (rs (xa 3 (aa aF (aa (ak an7 (.cons rfl .nil) rfl (Uo _ (by omega) (by omega))) ?_)))));refine aa (bz (cs:=[_,_]) qm gv rfl (.cons rfl (by exact .inl rfl) .nil) ⟨⟨rfl,by decide⟩,trivial⟩ rfl) (aw (aD gv rfl rfl rfl (ay dM rfl rfl (by exact .inr ⟨_,rfl⟩) rfl rfl (by decide) rfl (ai (xq (xa 3 (aa (aC eu rfl) (aa (aQ bo rfl rfl rfl) (aa (aC fw rfl) (aw (ay bo rfl rfl (by exact .inl rfl) rfl rfl (by exact Nat.le_of_ble_eq_true rfl) rfl (ai (xq (ae (xa 7 (aa (aC eu rfl) (aa (aQ bo rfl rfl rfl) (aa (aC eu rfl) (aa (aQ bo rfl rfl rfl) ?_)))))))))))))))))));refine aa (cZ rfl rfl xi) (aa aF (aa (cM rfl rfl) (xc (ao rfl (λeJ=>?_) (λeJ=>?_)))))
 ·
  (try simp only[nb,Xv]at eJ)
  have hz:(oI x z).2=gk (1000000*(x*x+z*z))+1:=by unfold oI;simp only;rw[Xu eJ]
  refine xa 4 (aa (aC fw rfl) (aa (aQ bo rfl rfl rfl) ?_));refine aa (bC rfl rfl xi) (aa (aC fw rfl) (aw (ay bo rfl rfl (by exact .inl rfl) rfl rfl (by exact Nat.le_of_ble_eq_true rfl) rfl (ai (xq (xa 1 (aa (aX (ds:=[_,_]) dM rfl rfl rfl rfl) (aw (ay dM rfl rfl (by exact .inr ⟨_,rfl⟩) rfl rfl (by decide) rfl (ai ?_))))))))));change Awp _ _ _ _ _;refine ah ?_;refine⟨_,(.cons (.dn rfl rfl dM rfl) .nil),?_⟩;rw[hz];rfl
 ·
  (try simp only[nb,Xv]at eJ)
  have hz:(oI x z).2=gk (1000000*(x*x+z*z)):=by unfold oI;simp only;rw[Xr (by omega)]
  refine wO ?_;change Awp _ _ _ _ _;refine ae (xa 1 (aa (aX (ds:=[_,_]) dM rfl rfl rfl rfl) (aw (ay dM rfl rfl (by exact .inr ⟨_,rfl⟩) rfl rfl (by decide) rfl (ai ?_)))));change Awp _ _ _ _ _;refine ah ?_;refine⟨_,(.cons (.dn rfl rfl dM rfl) .nil),?_⟩;rw[hz];rfl
theorem KA(r:Rg)(v:Int)(hr:OQ r)(h1:500≤v):PC qP 181 [.agg [.v (.int .i64 ((r).1)),.v (.int .i64 ((r).2))],.v (.int .i64 (v))] (.agg [.v (.int .i64 ((sf r v).1)),.v (.int .i64 ((sf r v).2))]):=by
 obtain⟨a1,a2,a3,a4,a5⟩:=hr;refine av (qA Tryz.func181 rfl) rfl Tryz.ntmps181 (rs:=[.cell 4 76]) Tryz.results181 (by simp) λw0=>?_;refine ae (xa 1 (aa (aP rfl (by exact .inr ⟨_,rfl⟩)) (aw (aD gv rfl rfl rfl (ai (xq (xa 11 (aa (af eu rfl) (aa (aj bo rfl rfl) ?_)))))))));refine aa (cZ rfl rfl xi) (aa aF ?_);refine aa (ak NL (.cons rfl (.cons rfl .nil)) rfl (F7 _ _ ⟨by omega,by omega⟩ (by omega))) (aa (af fw rfl) (aa (aj bo rfl rfl) ?_));refine aa (cZ rfl rfl xi) (aa aF ?_);refine aa (ak Dq (.cons rfl (.cons rfl .nil)) rfl (Kv _ _ ⟨by omega,by omega⟩ (by omega))) ?_;refine aa (bz (cs:=[_,_]) qm gv rfl (.cons rfl (by exact .inl rfl) (.cons rfl (by exact .inl rfl) .nil)) ⟨⟨rfl,by decide⟩,⟨rfl,by decide⟩,trivial⟩ rfl) (aw (ay dM rfl rfl (by exact .inr ⟨_,rfl⟩) rfl rfl (by decide) rfl (ai ?_)));change Awp _ _ _ _ _;refine ah ?_;refine⟨_,(.cons (.dn rfl rfl dM rfl) .nil),?_⟩;rfl
theorem LB(a b:Rg)(h1 : -1000000000000000≤a.1)(h2:a.1≤1000000000000000)(h3 : -1000000000000000≤b.1)(h4:b.1≤1000000000000000)(h5 : -1000000000000000≤a.2)(h6:a.2≤1000000000000000)(h7 : -1000000000000000≤b.2)(h8:b.2≤1000000000000000):PC qP 158 [.agg [.v (.int .i64 ((a).1)),.v (.int .i64 ((a).2))],.agg [.v (.int .i64 ((b).1)),.v (.int .i64 ((b).2))]] (.agg [.v (.int .i64 (((a.1+b.1,a.2+b.2)).1)),.v (.int .i64 (((a.1+b.1,a.2+b.2)).2))]):=by
 refine av (qA Tryz.func158 rfl) rfl Tryz.ntmps158 (rs:=[.cell 4 76]) Tryz.results158 (by simp) λw0=>?_;refine ae (xa 2 (aa (aP rfl (by exact .inr ⟨_,rfl⟩)) (aa (aP rfl (by exact .inr ⟨_,rfl⟩)) (aw (aD gv rfl rfl rfl (ai (xq (xa 11 (aa (af eu rfl) (aa (aj bo rfl rfl) (aa (af eu rfl) (aa (aj bo rfl rfl) ?_))))))))))));refine aa (bC rfl rfl xi) (aa (af fw rfl) (aa (aj bo rfl rfl) (aa (af fw rfl) (aa (aj bo rfl rfl) ?_))));refine aa (bC rfl rfl xi) ?_;refine aa (bz (cs:=[_,_]) qm gv rfl (.cons rfl (by exact .inl rfl) (.cons rfl (by exact .inl rfl) .nil)) ⟨⟨rfl,by decide⟩,⟨rfl,by decide⟩,trivial⟩ rfl) (aw (ay dM rfl rfl (by exact .inr ⟨_,rfl⟩) rfl rfl (by decide) rfl (ai ?_)));change Awp _ _ _ _ _;refine ah ?_;refine⟨_,(.cons (.dn rfl rfl dM rfl) .nil),?_⟩;rfl
theorem Mn(a:Nat)(ha:a<18446744073709551616):bits .and .u64 (a:Int) 4294967295=((a % 4294967296:Nat):Int):=by
 have h:=bits_and_u64_nat a 4294967295 ha (by omega);have e:a &&& 4294967295=a % 4294967296:=Nat.and_two_pow_sub_one_eq_mod a 32;rw[e]at h;exact h
theorem aF7(a:Nat):(a:Int) / 4294967296=((a / 4294967296:Nat):Int):=by omega
theorem ax0(a b:Nat):(a:Int)*(b:Int)=((a*b:Nat):Int):=(Zo a b).symm
theorem aG6(a b:Nat):(a:Int)+(b:Int)=((a+b:Nat):Int):=(Int.natCast_add a b).symm
theorem s9(a:Nat)(ha:a<18446744073709551616):IntKind.u64.wrap (a:Int)=(a:Int):=by rw[IntKind.wrap_u64];omega
theorem Xl(a:Nat):IntKind.u64.wrap (a:Int)=((a % 18446744073709551616:Nat):Int):=by rw[IntKind.wrap_u64];omega
set_option maxHeartbeats 1000000 in
theorem Qx (x y : Nat) (hx : x < 18446744073709551616) (hy : y < 18446744073709551616) (w : World) :
  Calls qP 187 #[.int .u64 x,.int .u64 y] w λe w'=>e=.returned (.tuple #[.int .u64 ((x*y / 18446744073709551616:Nat):Int),.int .u64 ((x*y % 18446744073709551616:Nat):Int)])∧w'=w:=by
 obtain⟨bd,bt,bw,hhi⟩:=Lib.mul64_hi x y hx hy;have ba:=Lib.half_mul_le (a:=x / 4294967296) (b:=y / 4294967296) (by omega) (by omega);have bb:=Lib.half_mul_le (a:=x / 4294967296) (b:=y % 4294967296) (by omega) (by omega);have bc:=Lib.half_mul_le (a:=x % 4294967296) (b:=y / 4294967296) (by omega) (by omega);have ba':x / 4294967296*(y / 4294967296)<18446744073709551616:=by omega
 have bb':x / 4294967296*(y % 4294967296)<18446744073709551616:=by omega
 have bc':x % 4294967296*(y / 4294967296)<18446744073709551616:=by omega
 have bh1:x / 4294967296*(y / 4294967296)+(x / 4294967296*(y % 4294967296)+x % 4294967296*(y % 4294967296) / 4294967296) / 4294967296<18446744073709551616:=by omega
 have bh:x / 4294967296*(y / 4294967296)+(x / 4294967296*(y % 4294967296)+x % 4294967296*(y % 4294967296) / 4294967296) / 4294967296+((x / 4294967296*(y % 4294967296)+x % 4294967296*(y % 4294967296) / 4294967296) % 4294967296+x % 4294967296*(y / 4294967296)) / 4294967296<18446744073709551616:=by omega
 go_enter (qA Tryz.func187 rfl),Tryz.ntmps187
 go_wp2
 simp only[Mn x hx,Mn y hy,aF7,ax0,aG6,s9 _ bd,s9 _ bb',s9 _ bt,Mn _ bt,s9 _ bc',s9 _ bw,s9 _ ba',s9 _ bh1,s9 _ bh,Xl (x*y)];rw[hhi]
 go_ret2
 exact⟨rfl,rfl⟩
theorem P6{w:World}{ok:Nat->Prop}{cs:List D}{vs:List Value}(h:RepL w ok cs vs):Rep w ok (.da cs) (.tuple vs.toArray):=
 .da cs vs h.length λj d v h1 h2=>h.get j d v h1 h2
def CU(p:Int):Int:=p / 18446744073709551616
def xu(p:Int):Int:=p % 18446744073709551616
theorem Qw(x y:Int)(h1:0≤x)(h2:x<18446744073709551616)(h3:0≤y)(h4:y<18446744073709551616):PC qP 187 [.v (.int .u64 x),.v (.int .u64 y)] (.da [.v (.int .u64 (CU (x*y))),.v (.int .u64 (xu (x*y)))]):=by
 intro w ok vs hL
 match vs,hL with
 | [v,v'],⟨k1,k2,_⟩=>
  rw[Rep.c8 k1,Rep.c8 k2];obtain⟨a,rfl⟩:=Int.eq_ofNat_of_zero_le h1;obtain⟨b,rfl⟩:=Int.eq_ofNat_of_zero_le h3;refine(Qx a b (by omega) (by omega) w).mono ?_;rintro e w' ⟨rfl,rfl⟩;have e1:CU ((a:Int)*(b:Int))=((a*b / 18446744073709551616:Nat):Int):=by unfold CU;rw[<-Zo];omega
  have e2:xu ((a:Int)*(b:Int))=((a*b % 18446744073709551616:Nat):Int):=by unfold xu;rw[<-Zo];omega
  rw[e1,e2];exact⟨_,rfl,Ext.refl _,P6 (vs:=[.int .u64 _,.int .u64 _]) ⟨.v _ rfl,.v _ rfl,trivial⟩⟩
theorem GQ(a b:Int)(h1:0≤a)(h2:a≤9223372036854775807)(h3:0≤b)(h4:b≤9223372036854775807):PC qP 184 [.v (.int .i64 (a)),.v (.int .i64 (b))] (.agg [.v (.int .u64 (CU (a*b))),.v (.int .u64 (xu (a*b)))]):=by
 refine av (qA Tryz.func184 rfl) rfl Tryz.ntmps184 (rs:=[.cell 4 270]) Tryz.results184 (by simp) λw0=>?_;refine ae (xa 0 (aw (aD GF rfl rfl rfl (ai (xq (xa 10 (aa aF (aa (ur l4 SC rfl (u64_in (by omega) (by omega))) (aa aF (aa (ur l4 SC rfl (u64_in (by omega) (by omega))) (aa (ak an6 (.cons rfl (.cons rfl .nil)) rfl (Qw _ _ (by omega) (by omega) (by omega) (by omega))) (aa (aq (x:=.d (.da _)) rfl) (aa (au rfl rfl) (aa (au rfl rfl) (aa aA (aa aA (rs (xa 3 (aa aF (aa aF ?_))))))))))))))))))));refine aa (bz (cs:=[_,_]) ae2 GF rfl (.cons rfl (by exact .inl rfl) (.cons rfl (by exact .inl rfl) .nil)) ⟨⟨rfl,by decide⟩,⟨rfl,by decide⟩,trivial⟩ rfl) (aw (ay te rfl rfl (by exact .inr ⟨_,rfl⟩) rfl rfl (by decide) rfl (ai ?_)));change Awp _ _ _ _ _;refine ah ?_;refine⟨_,(.cons (.dn rfl rfl te rfl) .nil),?_⟩;rfl
theorem Q0(a:Int):a=CU a*18446744073709551616+xu a∧0≤xu a∧xu a<18446744073709551616:=by unfold CU xu;omega
theorem JJ(a b:Int):PC qP 185 [.agg [.v (.int .u64 (CU (a))),.v (.int .u64 (xu (a)))],.agg [.v (.int .u64 (CU (b))),.v (.int .u64 (xu (b)))]] (.v (.int .i64 (mz a b))):=by
 obtain⟨a1,a2,a3⟩:=Q0 a;obtain⟨b1,b2,b3⟩:=Q0 b;refine av (qA Tryz.func185 rfl) rfl Tryz.ntmps185 (rs:=[.tmp 4]) Tryz.results185 (by simp) λw0=>?_;refine ae (xa 3 (aa (aP rfl (by exact .inr ⟨_,rfl⟩)) (aa (aP rfl (by exact .inr ⟨_,rfl⟩)) (aa aA (rs (az (ae (xa 4 (aa (ax (ds:=[_,_]) te rfl rfl rfl) (aa (ax (ds:=[_,_]) te rfl rfl rfl) (aa (Uz (xs:=[_,_]) (ys:=[_,_]) VH rfl rfl rfl rfl) (aa aA (xc (ao rfl (λbW=>?_) (λbW=>?_)))))))))))))))
 ·
  (try simp only[nb,Xv]at bW)
  have hz:mz a b=0:=by unfold mz;rw[Xu (by simp at bW;omega)]
  refine ae (xa 1 (aa aA (xc (ah ?_))));refine⟨_,cS,?_⟩;rw[hz];rfl
 ·
  (try simp only[nb,Xv]at bW)
  have eW:¬a=b:=λe=>by subst e;simp at bW
  refine ae (xa 20 (aa (af ra rfl) (aa (aj ID rfl rfl) (aa (af ra rfl) (aa (aj ID rfl rfl) (aa (cM rfl rfl) (aa aF (aE rfl rfl (λhG=>(af ra rfl)) (aE rfl rfl (λhG=>(aj ID rfl rfl)) (aE rfl rfl (λhG=>(af ra rfl)) (aE rfl rfl (λhG=>(aj ID rfl rfl)) (aE rfl rfl (λhG=>(fG rfl rfl)) (aE rfl rfl (λhG=>aF) (aE rfl rfl (λhG=>(af Dc rfl)) (aE rfl rfl (λhG=>(aj ID rfl rfl)) (aE rfl rfl (λhG=>(af Dc rfl)) (aE rfl rfl (λhG=>(aj ID rfl rfl)) (aE rfl rfl (λhG=>(cM rfl rfl)) (vb rfl rfl rfl rfl rfl rfl rfl rfl ?_)))))))))))))))))));refine aT rfl rfl rfl rfl rfl rfl ?_;refine aa aA (xc (ao rfl (λdB=>?_) (λdB=>?_)))
  ·
   (try simp only[nb,Xv]at dB)
   have hz:mz a b = -1:=by unfold mz;rw[Xr eW,Xu (by omega)]
   refine ae (xa 1 (aa aA (xc (ah ?_))));refine⟨_,cS,?_⟩;rw[hz];rfl
  ·
   (try simp only[nb,Xv]at dB)
   have hz:mz a b=1:=by unfold mz;rw[Xr eW,Xr (by omega)]
   refine wO ?_;change Awp _ _ _ _ _;refine ae (xa 1 (aa aA (xc (ah ?_))));refine⟨_,cS,?_⟩;rw[hz];rfl
theorem qb{t v h:Int}(t1 : -200000≤t)(t2:t≤200000)(v1:500≤v)(v2:v≤10000)(h1:1≤h)(h2:h≤100000) :
  (-2000000000≤t*v∧t*v≤2000000000)∧(-400000000000000≤t*v*t∧t*v*t≤400000000000000)∧(0≤t*v*t*v∧t*v*t*v≤4000000000000000000)∧(0≤t*t∧t*t≤40000000000)∧(0≤h*h∧h*h≤10000000000):=by
 have m1:=lX (a:=t) (b:=v) (A:=200000) (B:=10000) (by omega) (by omega) (by omega) (by omega);have m2:=lX (a:=t*v) (b:=t) (A:=2000000000) (B:=200000) (by omega) (by omega) (by omega) (by omega);have m3:=lX (a:=t*v*t) (b:=v) (A:=400000000000000) (B:=10000) (by omega) (by omega) (by omega) (by omega);obtain⟨b1,b2,b3,b4⟩:=pG (x:=t) (z:=h) t1 t2 (by omega) (by omega);have m4:=lX (a:=h) (b:=h) (A:=100000) (B:=100000) (by omega) (by omega) (by omega) (by omega);have e:t*v*t*v=(t*v)*(t*v):=by grind
 have n:0≤(t*v)*(t*v):=by
  rcases Int.le_total 0 (t*v) with q|q
  ·exact X2 q q
  ·have:=X2 (show 0≤-(t*v) by omega) (show 0≤-(t*v) by omega)
   rwa [Int.neg_mul_neg]at this
 refine⟨by omega,by omega,by omega,⟨b1,b2⟩,b3,by omega⟩
theorem PV(x:ue)(t:Int)(hx:nH x)(h1 : -100000≤t)(h2:t≤100000):PC qP 180 [.agg (xJ x),.v (.int .i64 (t))] (.v (.int .i64 (fZ x t))):=by
 obtain⟨a1,a2,b1,b2,c1,c2,d1,d2,e1,e2,f1,f2⟩:=hx;obtain⟨p1,p2,p3,p4,p5⟩:=qb (t:=t - x.x1) (v:=x.v2) (h:=x.h1) (by omega) (by omega) f1 f2 c1 c2;obtain⟨q1,q2,q3,q4,q5⟩:=qb (t:=x.x2 - t) (v:=x.v1) (h:=x.h2) (by omega) (by omega) e1 e2 d1 d2;have hs : -1≤mz (tT x t) (tP x t)∧mz (tT x t) (tP x t)≤1:=by unfold mz;split<;>(try split)<;>omega
 refine av (qA Tryz.func180 rfl) rfl Tryz.ntmps180 (rs:=[.tmp 4]) Tryz.results180 (by simp) λw0=>?_;refine ae (xa 2 (aa (aP rfl (by exact .inr ⟨_,rfl⟩)) (aa aA (rs (xa 12 (aa aF (aa (af bT rfl) (aa (af nx rfl) (aa (aj bo rfl rfl) ?_)))))))));refine aa (dk rfl rfl xi) (aa (af bT rfl) (aa (af nq rfl) (aa (aj bo rfl rfl) (aa aF ?_))));refine aa (dk rfl rfl xi) (aa aA (aa aA (rs (xa 23 (aa aF (aa (af bT rfl) (aa (af nj rfl) (aa (aj bo rfl rfl) ?_))))))));refine aa (cZ rfl rfl xi) (aa aF ?_);refine aa (cZ rfl rfl xi) (aa (af bT rfl) (aa (af nj rfl) (aa (aj bo rfl rfl) ?_)));refine aa (cZ rfl rfl xi) (aa aF (aa aF ?_));refine aa (cZ rfl rfl xi) (aa (af bT rfl) (aa (af np rfl) (aa (aj bo rfl rfl) (aa (af bT rfl) (aa (af np rfl) (aa (aj bo rfl rfl) ?_))))));refine aa (cZ rfl rfl xi) ?_;refine aa (bC rfl rfl xi) (aa (ak S8 (.cons rfl (.cons rfl .nil)) rfl (GQ _ _ (by omega) (by omega) (by omega) (by omega))) (aw (aD GF rfl rfl rfl (ay te rfl rfl (by exact .inr ⟨_,rfl⟩) rfl rfl (by decide) rfl (ai (xq (xa 23 (aa aF (aa (af bT rfl) (aa (af nt rfl) (aa (aj bo rfl rfl) ?_)))))))))));refine aa (cZ rfl rfl xi) (aa aF ?_);refine aa (cZ rfl rfl xi) (aa (af bT rfl) (aa (af nt rfl) (aa (aj bo rfl rfl) ?_)));refine aa (cZ rfl rfl xi) (aa aF (aa aF ?_));refine aa (cZ rfl rfl xi) (aa (af bT rfl) (aa (af nu rfl) (aa (aj bo rfl rfl) (aa (af bT rfl) (aa (af nu rfl) (aa (aj bo rfl rfl) ?_))))));refine aa (cZ rfl rfl xi) ?_;refine aa (bC rfl rfl xi) (aa (ak S8 (.cons rfl (.cons rfl .nil)) rfl (GQ _ _ (by omega) (by omega) (by omega) (by omega))) (aw (aD GF rfl rfl rfl (ay te rfl rfl (by exact .inr ⟨_,rfl⟩) rfl rfl (by decide) rfl (ai (xq (xa 4 (aa (aX (ds:=[_,_]) te rfl rfl rfl rfl) (aa (aX (ds:=[_,_]) te rfl rfl rfl rfl) (aa (ak an8 (.cons rfl (.cons rfl .nil)) rfl (JJ (tT x t) (tP x t))) (aa aA (rs (ae (xa 7 (aa (af bT rfl) (aa (af nq rfl) (aa (aj bo rfl rfl) (aa (af bT rfl) (aa (af nx rfl) (aa (aj bo rfl rfl) (aa (cM rfl rfl) (xc (ao rfl (λeU=>?_) (λeU=>?_))))))))))))))))))))))))
 ·
  (try simp only[nb,Xv]at eU)
  have hz:fZ x t = -(mz (tT x t) (tP x t)):=by unfold fZ;rw[Xu eU]
  refine xa 3 (aa aF ?_);refine aa (tw rfl xi) (aa aA (rs (xa 2 (aa aF (aa aA (xc (ah ?_)))))));refine⟨_,cS,?_⟩;rw[hz];rfl
 ·
  (try simp only[nb,Xv]at eU)
  have hz:fZ x t=mz (tT x t) (tP x t):=by unfold fZ;rw[Xr (by omega)]
  refine wO ?_;change Awp _ _ _ _ _;refine ae (xa 2 (aa aF (aa aA (xc (ah ?_)))));refine⟨_,cS,?_⟩;rw[hz];rfl
theorem NI(x:ue):PC qP 177 [.agg (xJ x)] (.da [.v (.int .i64 (je x)),.v (.int .i64 (ub x))]):=by
 refine av (qA Tryz.func177 rfl) rfl Tryz.ntmps177 (rs:=[.tmp 2,.tmp 3]) Tryz.results177 (by simp) λw0=>?_;refine ae (xa 3 (aa (aP rfl (by exact .inr ⟨_,rfl⟩)) (aa aA (aa aA (rs (xa 16 (aa (af bT rfl) (aa (af nx rfl) (aa (aj bo rfl rfl) (aa (af bT rfl) (aa (af nq rfl) (aa (aj bo rfl rfl) (aa (tx rfl rfl) (aa (af bT rfl) (aa (af nx rfl) (aa (aj bo rfl rfl) (aa (af bT rfl) (aa (af nq rfl) (aa (aj bo rfl rfl) (aa (vg rfl rfl) (aa aA (aa aA (xc (ah ?_))))))))))))))))))))))));refine⟨_,gz,?_⟩;rfl
theorem ak4(x:ue)(t:Int):PC qP 172 [.agg (xJ x),.v (.int .i64 (t))] (.v (.bool (dP (je x) t (ub x)))):=by
 refine av (qA Tryz.func172 rfl) rfl Tryz.ntmps172 (rs:=[.tmp 4]) Tryz.results172 (by simp) λw0=>?_;refine ae (xa 2 (aa (aP rfl (by exact .inr ⟨_,rfl⟩)) (aa aA (rs (xa 7 (aa (ax (ds:=[_,_,_,_,_,_]) gh rfl rfl rfl) (aa (ak Tc (.cons rfl .nil) rfl (NI _)) (aa (aq (x:=.d (.da _)) rfl) (aa (au rfl rfl) (aa (au rfl rfl) (aa aA (aa aA (rs (xa 5 (aa aF (aa aF (aa aF (aa (ak yY (.cons rfl (.cons rfl (.cons rfl .nil))) rfl (jj _ _ _)) (aa aA (xc (ah ?_)))))))))))))))))))));refine⟨_,cS,?_⟩;rfl
theorem N7(x:ue)(n:Int)(hx:nH x)(h1:0≤n)(h2:n<ub x - je x+1):PC qP 179 [.v (.int .i64 (n)),.pt (xJ x) 0,.pt [.v (.int .i64 (je x))] 0] (.v (.bool (decide (0<fZ x (je x+n))))):=by
 have Ep:=hx;obtain⟨a1,a2,b1,b2,c1,c2,d1,d2,e1,e2,f1,f2⟩:=Ep;have hl : -100000≤je x∧ub x≤100000:=by unfold je ub;omega
 refine av (qA Tryz.func179 rfl) rfl Tryz.ntmps179 (rs:=[.tmp 4]) Tryz.results179 (by simp) λw0=>?_;refine ae (xa 1 (aa aA (rs (xa 7 (aa (ax (ds:=[_,_,_,_,_,_]) gh rfl rfl rfl) (aa (aj bo rfl rfl) (aa aF ?_)))))));refine aa (bC rfl rfl xi) (aa (ak ao0 (.cons rfl (.cons rfl .nil)) rfl (PV _ _ hx (by omega) (by omega))) (aa (gM rfl rfl) (aa aA (xc (ah ?_)))));refine⟨_,cS,?_⟩;rfl
theorem Ga(x:ue)(hx:nH x):PC qP 170 [.agg (xJ x)] (.v (.int .i64 (cR x))):=by
 have Ep:=hx;obtain⟨a1,a2,b1,b2,c1,c2,d1,d2,e1,e2,f1,f2⟩:=Ep;have hl : -100000≤je x∧je x≤ub x∧ub x≤100000:=by unfold je ub;omega
 have hs:=pP hx;have hcr:cR x=je x - 1+BI (λn=>decide (0<fZ x (je x+n))) (ub x - je x+1):=rfl;refine aY (qA Tryz.func170 rfl) rfl Tryz.ntmps170 (rs:=[.tmp 2]) Tryz.results170 (by simp) λw0 bQ cH iK=>?_;refine ae (xa 2 (aa (aP rfl (by exact .inr ⟨_,rfl⟩)) (aa aA (rs (xa 5 (aa (ax (ds:=[_,_,_,_,_,_]) gh rfl rfl rfl) (aa (ak Tc (.cons rfl .nil) rfl (NI _)) (aa (aq (x:=.d (.da _)) rfl) (aa (au rfl rfl) (aa (au rfl rfl) (aw (aD Br rfl rfl rfl (ay bo rfl rfl (by exact .inl rfl) rfl rfl (by decide) rfl (aN rfl aA (ai (xq (Awp.le (nZ 3 3 0 (cs:=[.v (.int .i64 (je x))]) rfl rfl rfl rfl bQ) ?_)))))))))))))))));refine xa 10 (aa (aj bo rfl rfl) ?_);refine aa (dk rfl rfl xi) (aa aF (aa (aj bo rfl rfl) ?_));refine aa (dk rfl rfl xi) ?_;refine aa (bC rfl rfl xi) (aa (jw (.cons rfl (.cons rfl .nil))) (aa (ak Tb (.cons rfl (.cons rfl .nil)) rfl (BS (λn=>decide (0<fZ x (je x+n))) 179 [.pt (xJ x) 0,.pt [.v (.int .i64 (je x))] 0] ao1 (ub x - je x+1) (by omega) (λh a b=>N7 x h hx a b))) ?_));refine aa (bC rfl rfl xi) (aa aA (xc (ah ?_)));refine⟨_,cS,?_⟩;rfl
structure OJ(r:Rg):Prop where
 a:0≤r.1
 b:r.1≤20000000000
 c:0≤r.2
 d:r.2≤20000000000
theorem zq{r:Rg}{v:Int}(hr:OQ r)(h1:500≤v):0≤(sf r v).1∧(sf r v).1≤8000000000∧0≤(sf r v).2∧(sf r v).2≤8000000000:=by
 obtain⟨a,b,c,d,e⟩:=hr;have hv:0<v:=by omega
 have k:∀n:Int,0≤n->n≤400000000->0≤n*10000 / v∧n*10000 / v≤8000000000:=λn h0 h2=>by
  refine⟨Int.ediv_nonneg (by omega) (by omega),?_⟩;have:=Int.ediv_le_ediv hv (show n*10000≤8000000000*v by omega)
  rwa [Int.mul_ediv_cancel _ (by omega)]at this
 have k2:∀n:Int,0≤n->n≤400000000->0≤pb (n*10000) v∧pb (n*10000) v≤8000000000:=λn h0 h2=>by
  unfold pb;constructor
  ·have:=Int.ediv_le_ediv hv (show -(n*10000)≤0 by omega)
   rw[Int.zero_ediv]at this;omega
  ·have:=Int.ediv_le_ediv hv (show (-8000000000)*v≤-(n*10000) by omega)
   rw[Int.mul_ediv_cancel _ (by omega)]at this;omega
 unfold sf;exact⟨(k _ a b).1,(k _ a b).2,(k2 _ c d).1,(k2 _ c d).2⟩
theorem nM{x:ue}{t:Int}(hx:nH x)(h1 : -100000≤t)(h2:t≤100000):OJ (fu x t):=by
 obtain⟨a1,a2,b1,b2,c1,c2,d1,d2,e1,e2,f1,f2⟩:=hx;obtain⟨p1,p2,p3,p4⟩:=zq (Ae (x:=t - x.x1) (z:=x.h1) (by omega) (by omega) (by omega) (by omega)) e1;obtain⟨q1,q2,q3,q4⟩:=zq (Ae (x:=x.x2 - t) (z:=x.h2) (by omega) (by omega) (by omega) (by omega)) f1;unfold fu;exact⟨by simp only;omega,by simp only;omega,by simp only;omega,by simp only;omega⟩
theorem BC(x:ue)(t:Int)(hx:nH x)(h1 : -100000≤t)(h2:t≤100000):PC qP 171 [.agg (xJ x),.v (.int .i64 (t))] (.agg [.v (.int .i64 ((fu x t).1)),.v (.int .i64 ((fu x t).2))]):=by
 obtain⟨a1,a2,b1,b2,c1,c2,d1,d2,e1,e2,f1,f2⟩:=hx;have l1:=Ae (x:=t - x.x1) (z:=x.h1) (by omega) (by omega) (by omega) (by omega);have l2:=Ae (x:=x.x2 - t) (z:=x.h2) (by omega) (by omega) (by omega) (by omega);obtain⟨p1,p2,p3,p4⟩:=zq l1 e1;obtain⟨q1,q2,q3,q4⟩:=zq l2 f1;refine av (qA Tryz.func171 rfl) rfl Tryz.ntmps171 (rs:=[.cell 4 76]) Tryz.results171 (by simp) λw0=>?_;refine ae (xa 1 (aa (aP rfl (by exact .inr ⟨_,rfl⟩)) (aw (aD gv rfl rfl rfl (ai (xq (xa 27 (aa aF (aa (af bT rfl) (aa (af nx rfl) (aa (aj bo rfl rfl) ?_)))))))))));refine aa (dk rfl rfl xi) (aa (af bT rfl) (aa (af nu rfl) (aa (aj bo rfl rfl) (aa (ak S9 (.cons rfl (.cons rfl .nil)) rfl (Ct _ _ (by omega) (by omega) (by omega) (by omega))) (aa (af bT rfl) (aa (af nt rfl) (aa (aj bo rfl rfl) (aa (ak Ta (.cons rfl (.cons rfl .nil)) rfl (KA (oI (t - x.x1) x.h1) x.v1 l1 e1)) (aa (af bT rfl) (aa (af nq rfl) (aa (aj bo rfl rfl) (aa aF ?_))))))))))));refine aa (dk rfl rfl xi) (aa (af bT rfl) (aa (af np rfl) (aa (aj bo rfl rfl) (aa (ak S9 (.cons rfl (.cons rfl .nil)) rfl (Ct _ _ (by omega) (by omega) (by omega) (by omega))) (aa (af bT rfl) (aa (af nj rfl) (aa (aj bo rfl rfl) (aa (ak Ta (.cons rfl (.cons rfl .nil)) rfl (KA (oI (x.x2 - t) x.h2) x.v2 l2 f1)) (aa (ak Tl (.cons rfl (.cons rfl .nil)) rfl (LB (sf (oI (t - x.x1) x.h1) x.v1) (sf (oI (x.x2 - t) x.h2) x.v2) (by omega) (by omega) (by omega) (by omega) (by omega) (by omega) (by omega) (by omega))) (aw (ay dM rfl rfl (by exact .inr ⟨_,rfl⟩) rfl rfl (by decide) rfl (ai ?_))))))))))));change Awp _ _ _ _ _;refine ah ?_;refine⟨_,(.cons (.dn rfl rfl dM rfl) .nil),?_⟩;rfl
theorem GM{n d:Int}(hn:0≤n)(hd:0<d):0≤pb n d∧pb n d≤n:=by
 unfold pb;have h1:=Int.ediv_le_ediv hd (show -n≤0 by omega);rw[Int.zero_ediv]at h1;refine⟨by omega,?_⟩
 have h2:(-n)≤(-n) / d:=by
  rw[Int.le_ediv_iff_mul_le hd];have:=Zj (show (1:Int)≤d by omega) hn
  grind
 omega
theorem vC{x:ue}(hx:nH x):OJ (jy x):=by
 have hs:=pP hx;have Ep:=hx;obtain⟨a1,a2,b1,b2,c1,c2,d1,d2,e1,e2,f1,f2⟩:=Ep;have hl : -100000≤je x∧ub x≤100000:=by unfold je ub;omega
 obtain⟨p1,p2,p3,p4⟩:=nM (t:=cR x) hx (by omega) (by omega);have u1:=GM (n:=10000000) (d:=x.v1*x.h1) (by omega) (Int.mul_pos (by omega) (by omega));have u2:=GM (n:=10000000) (d:=x.v2*x.h2) (by omega) (Int.mul_pos (by omega) (by omega))
 have h0:0≤(jz x).1∧(jz x).1≤20000000000∧0≤(jz x).2∧(jz x).2≤20000000000:=by
  unfold jz
  split
  ·rename_i h
   simp[dP]at h;obtain⟨q1,q2,q3,q4⟩:=nM (t:=cR x+1) hx (by omega) (by omega);simp only;omega
  ·omega
 unfold jy;exact⟨by simp only;omega,by simp only;omega,by simp only;omega,by simp only;omega⟩
theorem Af(x:ue)(hx:nH x):PC qP 159 [.agg (xJ x)] (.agg [.v (.int .i64 ((jy x).1)),.v (.int .i64 ((jy x).2))]):=by
 have hs:=pP hx;have Ep:=hx;obtain⟨a1,a2,b1,b2,c1,c2,d1,d2,e1,e2,f1,f2⟩:=Ep;have hl : -100000≤je x∧ub x≤100000:=by unfold je ub;omega
 obtain⟨p1,p2,p3,p4⟩:=nM (t:=cR x) hx (by omega) (by omega);have m1:=lX (a:=x.v1) (b:=x.h1) (A:=10000) (B:=100000) (by omega) (by omega) (by omega) (by omega);have m2:=lX (a:=x.v2) (b:=x.h2) (A:=10000) (B:=100000) (by omega) (by omega) (by omega) (by omega);have m3:=Int.mul_pos (show 0<x.v1 by omega) (show 0<x.h1 by omega);have m4:=Int.mul_pos (show 0<x.v2 by omega) (show 0<x.h2 by omega);have u1:=GM (n:=10000000) (d:=x.v1*x.h1) (by omega) m3;have u2:=GM (n:=10000000) (d:=x.v2*x.h2) (by omega) m4;refine av (qA Tryz.func159 rfl) rfl Tryz.ntmps159 (rs:=[.cell 2 76]) Tryz.results159 (by simp) λw0=>?_;refine ae (xa 1 (aa (aP rfl (by exact .inr ⟨_,rfl⟩)) (aw (aD gv rfl rfl rfl (ai (xq (xa 3 (aa (ax (ds:=[_,_,_,_,_,_]) gh rfl rfl rfl) (aa (ak ao4 (.cons rfl .nil) rfl (Ga _ hx)) (aa aA (rs (xa 3 (aa (ax (ds:=[_,_,_,_,_,_]) gh rfl rfl rfl) (aa aF (aa (ak Te (.cons rfl (.cons rfl .nil)) rfl (BC _ _ hx (by omega) (by omega))) (aw (aD gv rfl rfl rfl (ay dM rfl rfl (by exact .inr ⟨_,rfl⟩) rfl rfl (by decide) rfl (ai (xq (ae (xa 4 (aa (ax (ds:=[_,_,_,_,_,_]) gh rfl rfl rfl) (aa aF ?_))))))))))))))))))))))));refine aa (bC rfl rfl xi) (aa (ak ao3 (.cons rfl (.cons rfl .nil)) rfl (ak4 _ _)) (xc (ao rfl (λdB=>?_) (λdB=>?_))))
 ·
  (try simp only[nb,Xv]at dB)
  have hz:jz x=(min (fu x (cR x)).1 (fu x (cR x+1)).1,min (fu x (cR x)).2 (fu x (cR x+1)).2):=by unfold jz;rw[Xu dB]
  have aB8:=dB;simp[dP]at aB8;obtain⟨q1,q2,q3,q4⟩:=nM (t:=cR x+1) hx (by omega) (by omega);refine ae (xa 4 (aa (ax (ds:=[_,_,_,_,_,_]) gh rfl rfl rfl) (aa aF ?_)));refine aa (bC rfl rfl xi) (aa (ak Te (.cons rfl (.cons rfl .nil)) rfl (BC _ _ hx (by omega) (by omega))) (aw (aD gv rfl rfl rfl (ay dM rfl rfl (by exact .inr ⟨_,rfl⟩) rfl rfl (by decide) rfl (ai ?_)))));change Awp _ _ _ _ _;refine xa 11 (aa (aC eu rfl) (aa (aQ bo rfl rfl rfl) (aa (aC eu rfl) (aa (aQ bo rfl rfl rfl) (aa (tx rfl rfl) (aa (aC fw rfl) (aa (aQ bo rfl rfl rfl) (aa (aC fw rfl) (aa (aQ bo rfl rfl rfl) (aa (tx rfl rfl) ?_))))))))));refine aa (bz (cs:=[_,_]) qm gv rfl (.cons rfl (by exact .inl rfl) (.cons rfl (by exact .inl rfl) .nil)) ⟨⟨rfl,by decide⟩,⟨rfl,by decide⟩,trivial⟩ rfl) (aw (ay dM rfl rfl (by exact .inr ⟨_,rfl⟩) rfl rfl (by exact Nat.le_of_ble_eq_true rfl) rfl (ai (xq (xa 22 (aa (aC eu rfl) (aa (aQ bo rfl rfl rfl) (aa (af bT rfl) (aa (af nt rfl) (aa (aj bo rfl rfl) (aa (af bT rfl) (aa (af nu rfl) (aa (aj bo rfl rfl) ?_)))))))))))));refine aa (cZ rfl rfl xi) ?_;refine aa (ak Dq (.cons rfl (.cons rfl .nil)) rfl (Kv _ _ ⟨by omega,by omega⟩ (by omega))) ?_;refine aa (dk rfl rfl xi) (aa (af bT rfl) (aa (af nj rfl) (aa (aj bo rfl rfl) (aa (af bT rfl) (aa (af np rfl) (aa (aj bo rfl rfl) ?_))))));refine aa (cZ rfl rfl xi) ?_;refine aa (ak Dq (.cons rfl (.cons rfl .nil)) rfl (Kv _ _ ⟨by omega,by omega⟩ (by omega))) ?_;refine aa (dk rfl rfl xi) (aa (vg rfl rfl) (aa (aC eu rfl) (aw (ay bo rfl rfl (by exact .inl rfl) rfl rfl (by exact Nat.le_of_ble_eq_true rfl) rfl (ai (xq (xa 1 (aa (aX (ds:=[_,_]) dM rfl rfl rfl rfl) (aw (ay dM rfl rfl (by exact .inr ⟨_,rfl⟩) rfl rfl (by decide) rfl (ai ?_)))))))))));change Awp _ _ _ _ _;refine ah ?_;refine⟨_,(.cons (.dn rfl rfl dM rfl) .nil),?_⟩;unfold jy;rw[hz];rfl
 ·
  (try simp only[nb,Xv]at dB)
  have hz:jz x=fu x (cR x):=by unfold jz;rw[Xr (by simpa using dB)]
  refine wO ?_;change Awp _ _ _ _ _;refine ae (xa 22 (aa (aC eu rfl) (aa (aQ bo rfl rfl rfl) (aa (af bT rfl) (aa (af nt rfl) (aa (aj bo rfl rfl) (aa (af bT rfl) (aa (af nu rfl) (aa (aj bo rfl rfl) ?_)))))))));refine aa (cZ rfl rfl xi) ?_;refine aa (ak Dq (.cons rfl (.cons rfl .nil)) rfl (Kv _ _ ⟨by omega,by omega⟩ (by omega))) ?_;refine aa (dk rfl rfl xi) (aa (af bT rfl) (aa (af nj rfl) (aa (aj bo rfl rfl) (aa (af bT rfl) (aa (af np rfl) (aa (aj bo rfl rfl) ?_))))));refine aa (cZ rfl rfl xi) ?_;refine aa (ak Dq (.cons rfl (.cons rfl .nil)) rfl (Kv _ _ ⟨by omega,by omega⟩ (by omega))) ?_;refine aa (dk rfl rfl xi) (aa (vg rfl rfl) (aa (aC eu rfl) (aw (ay bo rfl rfl (by exact .inl rfl) rfl rfl (by exact Nat.le_of_ble_eq_true rfl) rfl (ai (xq (xa 1 (aa (aX (ds:=[_,_]) dM rfl rfl rfl rfl) (aw (ay dM rfl rfl (by exact .inr ⟨_,rfl⟩) rfl rfl (by decide) rfl (ai ?_)))))))))));change Awp _ _ _ _ _;refine ah ?_;refine⟨_,(.cons (.dn rfl rfl dM rfl) .nil),?_⟩;unfold jy;rw[hz];rfl
structure Md where
 w:Int
 m:Int
 k:Int
 t:Int
def O6(x:Md):List D:=[.v (.int .i64 x.w),.v (.int .i64 x.m),.v (.int .i64 x.k),.v (.int .i64 x.t)]
def gw(v:Int):Int:=g9 (dP 500 v 10000) 2
def gP(m:Md):Int:=firstE [gw m.w,gw m.m,g9 (dP 0 m.k 4&&dP 2 m.t 20000) 2]
def KX(p:Int × Int):Bool:=dP (-100000) p.1 100000&&dP (-100000) p.2 100000
def iT(p:Int × Int):Int:=g9 (KX p) 2
theorem gE{b:Bool}{e:Int}(he:e≠0):g9 b e=0↔b=true:=by unfold g9;split<;>simp_all
theorem fe:∀{l:List Int},firstE l=0↔∀x∈l,x=0
 | []=>by simp[firstE]
 | x::xs=>by
  unfold firstE
  by_cases h:x=0
  ·rw[Xu h,fe];simp[h]
  ·rw[Xr h];simp[h]
structure sY(m:Md):Prop where
 w1:500≤m.w
 w2:m.w≤10000
 m1:500≤m.m
 m2:m.m≤10000
 k1:0≤m.k
 k2:m.k≤4
 t1:2≤m.t
 t2:m.t≤20000
theorem nV{m:Md}:gP m=0↔sY m:=by
 unfold gP gw;rw[fe];simp only[Xy,XG,Yn,ZE,forall_eq,gE (show (2:Int)≠0 by omega),dP,Xs,XW];exact⟨λ⟨⟨a,b⟩,⟨c,d⟩,⟨e,f⟩,g,h⟩=>⟨a,b,c,d,e,f,g,h⟩,λ⟨a,b,c,d,e,f,g,h⟩=>⟨⟨a,b⟩,⟨c,d⟩,⟨e,f⟩,g,h⟩⟩
theorem nP{p:Int × Int}:iT p=0↔(-100000≤p.1∧p.1≤100000)∧-100000≤p.2∧p.2≤100000:=by
 unfold iT KX;rw[gE (by omega)];simp[dP]
theorem Jm(n:Int):PC qP 164 [.v (.int .i64 (n))] (.v (.bool (dP 2 n 20000))):=by
 refine av (qA Tryz.func164 rfl) rfl Tryz.ntmps164 (rs:=[.tmp 2]) Tryz.results164 (by simp) λw0=>?_;refine ae (xa 1 (aa aA (rs (xa 3 (aa aF (aa (ak yY (.cons rfl (.cons rfl (.cons rfl .nil))) rfl (jj _ _ _)) (aa aA (xc (ah ?_)))))))));refine⟨_,cS,?_⟩;rfl
theorem uU(v:Int):PC qP 161 [.v (.int .i64 (v))] (.v (.int .i64 (gw v))):=by
 refine av (qA Tryz.func161 rfl) rfl Tryz.ntmps161 (rs:=[.tmp 2]) Tryz.results161 (by simp) λw0=>?_;refine ae (xa 1 (aa aA (rs (xa 4 (aa aF (aa (ak yY (.cons rfl (.cons rfl (.cons rfl .nil))) rfl (jj _ _ _)) (aa (ak Dr (.cons rfl (.cons rfl .nil)) rfl (vz _ _)) (aa aA (xc (ah ?_))))))))));refine⟨_,cS,?_⟩;rfl
theorem iM(m:Md):PC qP 145 [.agg (O6 m)] (.v (.int .i64 (gP m))):=by
 refine av (qA Tryz.func145 rfl) rfl Tryz.ntmps145 (rs:=[.tmp 2]) Tryz.results145 (by simp) λw0=>?_;refine ae (xa 2 (aa (aP rfl (by exact .inr ⟨_,rfl⟩)) (aa aA (rs (xa 18 (aa (af AL rfl) (aa (aj bo rfl rfl) (aa (ak Ti (.cons rfl .nil) rfl (uU _)) (aa (af AK rfl) (aa (aj bo rfl rfl) (aa (ak Ti (.cons rfl .nil) rfl (uU _)) (aa (af rf rfl) (aa (aj bo rfl rfl) (aa (ak yY (.cons rfl (.cons rfl (.cons rfl .nil))) rfl (jj _ _ _)) (aa aF (aE rfl rfl (λhG=>(af fD rfl)) (aE rfl rfl (λhG=>(aj bo rfl rfl)) (aE rfl rfl (λhG=>(ak ao6 (.cons rfl .nil) rfl (Jm _))) (aT rfl rfl rfl rfl rfl rfl ?_)))))))))))))))))));refine aa (ak Dr (.cons rfl (.cons rfl .nil)) rfl (vz _ _)) (aa (bu oT EA rfl rfl (by decide) (.cons rfl (by exact .inl rfl) (.cons rfl (by exact .inl rfl) (.cons rfl (by exact .inl rfl) .nil))) ⟨rfl,rfl,rfl,rfl,rfl,rfl,trivial⟩ rfl (by decide) rfl) (aa (ak NO (.cons rfl .nil) rfl (vc [_,_,_])) (aa aA (xc (ah ?_)))));refine⟨_,cS,?_⟩;simp only[gX];rfl
theorem u7(p:Int × Int):PC qP 168 [.agg (shC p)] (.v (.int .i64 (iT p))):=by
 refine av (qA Tryz.func168 rfl) rfl Tryz.ntmps168 (rs:=[.tmp 2]) Tryz.results168 (by simp) λw0=>?_;refine ae (xa 2 (aa (aP rfl (by exact .inr ⟨_,rfl⟩)) (aa aA (rs (xa 10 (aa (af gU rfl) (aa (aj bo rfl rfl) (aa (ak Td (.cons rfl (.cons rfl .nil)) rfl (BU _ _ (by omega) (by omega))) (aa aF (aE rfl rfl (λhG=>(af dQ rfl)) (aE rfl rfl (λhG=>(aj bo rfl rfl)) (aE rfl rfl (λhG=>(ak Td (.cons rfl (.cons rfl .nil)) rfl (BU _ _ (by omega) (by omega)))) (aT rfl rfl rfl rfl rfl rfl ?_)))))))))))));refine aa (ak Dr (.cons rfl (.cons rfl .nil)) rfl (vz _ _)) (aa aA (xc (ah ?_)));refine⟨_,cS,?_⟩;simp only[gX];rfl
def tO(m:Md)(z:Int):Int:=if m.k.tmod 2=1 then m.k*m.t+(m.t - z) else m.k*m.t+z
theorem yD{m:Md}(h:sY m):0≤m.k*m.t∧m.k*m.t≤80000:=by
 obtain⟨_,_,_,_,k1,k2,t1,t2⟩:=h;have:=lX (a:=m.k) (b:=m.t) (A:=4) (B:=20000) (by omega) (by omega) (by omega) (by omega);exact⟨X2 k1 (by omega),by omega⟩
theorem EH(m:Md)(z:Int)(hm:sY m)(h1 : -100000≤z)(h2:z≤100000):PC qP 169 [.agg (O6 m),.v (.int .i64 (z))] (.v (.int .i64 (tO m z))):=by
 obtain⟨b1,b2⟩:=yD hm;obtain⟨w1,w2,m1,m2,k1,k2,t1,t2⟩:=hm;refine av (qA Tryz.func169 rfl) rfl Tryz.ntmps169 (rs:=[.tmp 4]) Tryz.results169 (by simp) λw0=>?_;refine ae (xa 2 (aa (aP rfl (by exact .inr ⟨_,rfl⟩)) (aa aA (rs (ae (xa 4 (aa (af rf rfl) (aa (aj bo rfl rfl) (aa (yo rfl rfl (by omega)) (aa (fG rfl rfl) (xc (ao rfl (λbW=>?_) (λbW=>?_)))))))))))))
 ·
  (try simp only[nb,Xv]at bW)
  have hz:tO m z=m.k*m.t+(m.t - z):=by unfold tO;rw[Xu bW]
  refine xa 5 (aa (af fD rfl) (aa (aj bo rfl rfl) (aa aF ?_)));refine aa (dk rfl rfl xi) (aa aA (rs (xa 8 (aa (af rf rfl) (aa (aj bo rfl rfl) (aa (af fD rfl) (aa (aj bo rfl rfl) ?_)))))));refine aa (cZ rfl rfl xi) (aa aF ?_);refine aa (bC rfl rfl xi) (aa aA (xc (ah ?_)));refine⟨_,cS,?_⟩;rw[hz];rfl
 ·
  (try simp only[nb,Xv]at bW)
  have hz:tO m z=m.k*m.t+z:=by unfold tO;rw[Xr (by simpa using bW)]
  refine wO ?_;change Awp _ _ _ _ _;refine ae (xa 8 (aa (af rf rfl) (aa (aj bo rfl rfl) (aa (af fD rfl) (aa (aj bo rfl rfl) ?_)))));refine aa (cZ rfl rfl xi) (aa aF ?_);refine aa (bC rfl rfl xi) (aa aA (xc (ah ?_)));refine⟨_,cS,?_⟩;rw[hz];rfl
def ph(m:Md)(a b:Int × Int):Int:=firstE [iT a,iT b,g9 (decide (a.2<0)) 15,g9 (dP 1 b.2 (m.t - 1)) 22]
def N6:ue:=⟨0,0,0,0,0,0⟩
def lb(m:Md)(a b:Int × Int):ue × Int:=if ph m a b≠0 then (N6,ph m a b) else if 100000<tO m b.2 then (N6,8) else (⟨a.1,-a.2,m.w,b.1,tO m b.2,m.m⟩,0)
theorem GJ{m:Md}{a b:Int × Int}(h:ph m a b=0):((-100000≤a.1∧a.1≤100000)∧-100000≤a.2∧a.2≤100000)∧((-100000≤b.1∧b.1≤100000)∧-100000≤b.2∧b.2≤100000)∧a.2<0∧1≤b.2∧b.2≤m.t - 1:=by
 unfold ph at h;rw[fe]at h;simp only[Xy,XG,Yn,ZE,forall_eq,gE (show (15:Int)≠0 by omega),gE (show (22:Int)≠0 by omega),nP,dP,Xs,XW]at h;obtain⟨h1,h2,h3,h4⟩:=h;exact⟨h1,h2,h3,h4⟩
theorem GN{m:Md}(hm:sY m){z:Int}(h1:1≤z)(h2:z≤m.t - 1):1≤tO m z∧tO m z≤100000:=by
 obtain⟨b1,b2⟩:=yD hm;obtain⟨w1,w2,m1,m2,k1,k2,t1,t2⟩:=hm;unfold tO
 split<;>omega
theorem jY{m:Md}(hm:sY m){a b:Int × Int}(h:ph m a b=0):lb m a b=(⟨a.1,-a.2,m.w,b.1,tO m b.2,m.m⟩,0)∧nH (lb m a b).1:=by
 obtain⟨⟨h1,h2⟩,⟨h3,h4⟩,h5,h6,h7⟩:=GJ h;have hu:=GN hm h6 h7;have e:lb m a b=(⟨a.1,-a.2,m.w,b.1,tO m b.2,m.m⟩,0):=by unfold lb;rw[Xr (by rw[h];simp),Xr (by omega)]
 obtain⟨w1,w2,m1,m2,k1,k2,t1,t2⟩:=hm;rw[e];exact⟨rfl,⟨by simp only;omega,by simp only;omega,by simp only;omega,by simp only;omega,by simp only;omega,by simp only;omega,by simp only;omega,by simp only;omega,w1,w2,m1,m2⟩⟩
theorem Kn(m:Md)(a b:Int × Int)(hm:sY m):PC qP 157 [.agg (O6 m),.agg (shC a),.agg (shC b)] (.da [.agg (xJ ((lb m a b).1)),.v (.int .i64 ((lb m a b).2))]):=by
 have hm0:=hm;obtain⟨w1,w2,m1,m2,k1,k2,t1,t2⟩:=hm0;refine av (qA Tryz.func157 rfl) rfl Tryz.ntmps157 (rs:=[.cell 6 255,.tmp 7]) Tryz.results157 (by simp) λw0=>?_;refine ae (xa 3 (aa (aP rfl (by exact .inr ⟨_,rfl⟩)) (aa (aP rfl (by exact .inr ⟨_,rfl⟩)) (aa (aP rfl (by exact .inr ⟨_,rfl⟩)) (aw (aD s7 rfl rfl rfl (aN rfl aA (ai (xq (xa 18 (aa (ax (ds:=[_,_]) fM rfl rfl rfl) (aa (ak Tf (.cons rfl .nil) rfl (u7 _)) (aa (ax (ds:=[_,_]) fM rfl rfl rfl) (aa (ak Tf (.cons rfl .nil) rfl (u7 _)) (aa (af dQ rfl) (aa (aj bo rfl rfl) (aa (cM rfl rfl) (aa (ak Dr (.cons rfl (.cons rfl .nil)) rfl (vz _ _)) (aa (af dQ rfl) (aa (aj bo rfl rfl) (aa (af fD rfl) (aa (aj bo rfl rfl) ?_))))))))))))))))))))));refine aa (dk rfl rfl xi) (aa (ak yY (.cons rfl (.cons rfl (.cons rfl .nil))) rfl (jj _ _ _)) (aa (ak Dr (.cons rfl (.cons rfl .nil)) rfl (vz _ _)) (aa (bu oT EA rfl rfl (by decide) (.cons rfl (by exact .inl rfl) (.cons rfl (by exact .inl rfl) (.cons rfl (by exact .inl rfl) (.cons rfl (by exact .inl rfl) .nil)))) ⟨rfl,rfl,rfl,rfl,rfl,rfl,rfl,rfl,trivial⟩ rfl (by decide) rfl) (aa (ak NO (.cons rfl .nil) rfl (vc [_,_,_,_])) (aa aA (rs (ae (xa 2 (aa aF (aa (bS rfl rfl) (xc (ao rfl (λbV=>?_) (λbV=>?_)))))))))))))
 ·
  (try simp only[nb,Xv]at bV)
  have he:ph m a b≠0:=bV;have hz:lb m a b=(N6,ph m a b):=by unfold lb;rw[Xu he]
  refine ae (xa 2 (aa (bz (cs:=[_,_,_,_,_,_]) LH s7 rfl .nil trivial rfl) (aa aF (aw (ay gh rfl rfl (by exact .inr ⟨_,rfl⟩) rfl rfl (by decide) rfl (aN rfl aA (ai ?_)))))));change Awp _ _ _ _ _;refine ah ?_;refine⟨_,(.cons (.dn rfl rfl gh rfl) cS),?_⟩;rw[hz];rfl
 ·
  (try simp only[nb,Xv]at bV)
  have he:ph m a b=0:=bV;obtain⟨⟨g1,g2⟩,⟨g3,g4⟩,g5,g6,g7⟩:=GJ he;have hz:=(jY hm he).1;have hu:=GN hm g6 g7;refine wO ?_;change Awp _ _ _ _ _;refine ae (xa 5 (aa (ax (ds:=[_,_,_,_]) lh rfl rfl rfl) (aa (af dQ rfl) (aa (aj bo rfl rfl) (aa (ak ao5 (.cons rfl (.cons rfl .nil)) rfl (EH _ _ hm (by omega) (by omega))) (aa aA (rs (ae (xa 2 (aa aF (aa (gM rfl rfl) (xc (ao rfl (λeU=>?_) (λeU=>?_))))))))))))))
  ·
   exfalso;(try simp only[nb,Xv]at eU);omega
  ·
   (try simp only[nb,Xv]at eU)
   refine wO ?_;change Awp _ _ _ _ _;refine ae (xa 14 (aa (af gU rfl) (aa (aj bo rfl rfl) (aa (af dQ rfl) (aa (aj bo rfl rfl) ?_)))));refine aa (tw rfl xi) (aa (af AL rfl) (aa (aj bo rfl rfl) (aa (af gU rfl) (aa (aj bo rfl rfl) (aa aF (aa (af AK rfl) (aa (aj bo rfl rfl) ?_)))))));refine aa (bz (cs:=[_,_,_,_,_,_]) ae3 Xf rfl (.cons rfl (by exact .inl rfl) (.cons rfl (by exact .inl rfl) (.cons rfl (by exact .inl rfl) (.cons rfl (by exact .inl rfl) (.cons rfl (by exact .inl rfl) (.cons rfl (by exact .inl rfl) .nil)))))) ⟨⟨rfl,by decide⟩,⟨rfl,by decide⟩,⟨rfl,by decide⟩,⟨rfl,by decide⟩,⟨rfl,by decide⟩,⟨rfl,by decide⟩,trivial⟩ rfl) ?_;refine aa (bz (cs:=[_,_,_,_,_,_]) LH s7 rfl (.cons rfl (by exact .inr ⟨_,rfl⟩) .nil) ⟨⟨rfl,by decide⟩,trivial⟩ rfl) (aw (ay gh rfl rfl (by exact .inr ⟨_,rfl⟩) rfl rfl (by decide) rfl (aN rfl aA (ai ?_))));change Awp _ _ _ _ _;refine ah ?_;refine⟨_,(.cons (.dn rfl rfl gh rfl) cS),?_⟩;rw[hz];rfl
def mA(m:Md)(a b:Int × Int):ue × Int:=if gP m≠0 then (N6,gP m) else lb m a b
theorem LV{m:Md}{a b:Int × Int}(h:(mA m a b).2=0):sY m∧ph m a b=0∧mA m a b=lb m a b:=by
 unfold mA at h ⊢
 by_cases h1:gP m≠0
 ·rw[Xu h1]at h;exact absurd h h1
 ·rw[Xr h1]at h ⊢
  have hm:=nV.1 (XU.1 h1);refine⟨hm,?_,rfl⟩;unfold lb at h
  by_cases h2:ph m a b≠0
  ·rw[Xu h2]at h;exact absurd h h2
  ·exact XU.1 h2
theorem P2(m:Md)(a b:Int × Int):PC qP 183 [.agg (O6 m),.agg (shC a),.agg (shC b)] (.da [.agg (xJ ((mA m a b).1)),.v (.int .i64 ((mA m a b).2))]):=by
 refine av (qA Tryz.func183 rfl) rfl Tryz.ntmps183 (rs:=[.cell 6 255,.tmp 7]) Tryz.results183 (by simp) λw0=>?_;refine ae (xa 3 (aa (aP rfl (by exact .inr ⟨_,rfl⟩)) (aa (aP rfl (by exact .inr ⟨_,rfl⟩)) (aa (aP rfl (by exact .inr ⟨_,rfl⟩)) (aw (aD s7 rfl rfl rfl (aN rfl aA (ai (xq (ae (xa 3 (aa (ax (ds:=[_,_,_,_]) lh rfl rfl rfl) (aa (ak Ds (.cons rfl .nil) rfl (iM _)) (aa aA (rs (xa 2 (aa aF (aa (bS rfl rfl) (xc (ao rfl (λbV=>?_) (λbV=>?_)))))))))))))))))))))
 ·
  (try simp only[nb,Xv]at bV)
  have hz:mA m a b=(N6,gP m):=by unfold mA;rw[Xu bV]
  refine ae (xa 2 (aa (bz (cs:=[_,_,_,_,_,_]) LH s7 rfl .nil trivial rfl) (aa aF (aw (ay gh rfl rfl (by exact .inr ⟨_,rfl⟩) rfl rfl (by decide) rfl (aN rfl aA (ai ?_)))))));change Awp _ _ _ _ _;refine ah ?_;refine⟨_,(.cons (.dn rfl rfl gh rfl) cS),?_⟩;rw[hz];rfl
 ·
  (try simp only[nb,Xv]at bV)
  have hm:sY m:=nV.1 (by simpa using bV);have hz:mA m a b=lb m a b:=by unfold mA;rw[Xr (by simpa using bV)]
  refine wO ?_;change Awp _ _ _ _ _;refine ae (xa 6 (aa (ax (ds:=[_,_,_,_]) lh rfl rfl rfl) (aa (ax (ds:=[_,_]) fM rfl rfl rfl) (aa (ax (ds:=[_,_]) fM rfl rfl rfl) (aa (ak NN (.cons rfl (.cons rfl (.cons rfl .nil))) rfl (Kn _ _ _ hm)) (aa (au rfl rfl) (aa (au rfl rfl) (aw (ay gh rfl rfl (by exact .inr ⟨_,rfl⟩) rfl rfl (by decide) rfl (aN rfl aA (ai ?_)))))))))));change Awp _ _ _ _ _;refine ah ?_;refine⟨_,(.cons (.dn rfl rfl gh rfl) cS),?_⟩;rw[hz];rfl
def wW(m:Md)(a b:Int × Int):Rg × Int:=if (mA m a b).2≠0 then ((0,0),(mA m a b).2) else (jy (mA m a b).1,0)
theorem HG(m:Md)(a b:Int × Int):OJ (wW m a b).1:=by
 unfold wW
 split
 ·exact⟨by simp,by simp,by simp,by simp⟩
 ·rename_i h
  obtain⟨hm,hw,e⟩:=LV (XU.1 h);rw[e];exact vC (jY hm hw).2
def Wu(m:Md)(a b:Int × Int):Int:=((wW m a b).1.1+(wW m a b).1.2) / 2
theorem Ha(m:Md)(a b:Int × Int):0≤Wu m a b∧Wu m a b≤20000000000:=by
 obtain⟨h1,h2,h3,h4⟩:=HG m a b;unfold Wu;omega
theorem Cu(m:Md)(a b:Int × Int):PC qP 174 [.agg (O6 m),.agg (shC a),.agg (shC b)] (.da [.agg [.v (.int .i64 (((wW m a b).1).1)),.v (.int .i64 (((wW m a b).1).2))],.v (.int .i64 ((wW m a b).2))]):=by
 refine av (qA Tryz.func174 rfl) rfl Tryz.ntmps174 (rs:=[.cell 6 76,.tmp 7]) Tryz.results174 (by simp) λw0=>?_;refine ae (xa 3 (aa (aP rfl (by exact .inr ⟨_,rfl⟩)) (aa (aP rfl (by exact .inr ⟨_,rfl⟩)) (aa (aP rfl (by exact .inr ⟨_,rfl⟩)) (aw (aD gv rfl rfl rfl (aN rfl aA (ai (xq (xa 7 (aa (ax (ds:=[_,_,_,_]) lh rfl rfl rfl) (aa (ax (ds:=[_,_]) fM rfl rfl rfl) (aa (ax (ds:=[_,_]) fM rfl rfl rfl) (aa (ak an9 (.cons rfl (.cons rfl (.cons rfl .nil))) rfl (P2 _ _ _)) (aa (aq (x:=.d (.da _)) rfl) (aa (au rfl rfl) (aa (au rfl rfl) (aw (aD s7 rfl rfl rfl (ay gh rfl rfl (by exact .inr ⟨_,rfl⟩) rfl rfl (by decide) rfl (aN rfl aA (ai (xq (ae (xa 2 (aa aF (aa (bS rfl rfl) (xc (ao rfl (λbV=>?_) (λbV=>?_))))))))))))))))))))))))))))))
 ·
  (try simp only[nb,Xv]at bV)
  have hz:wW m a b=((0,0),(mA m a b).2):=by unfold wW;rw[Xu bV]
  refine ae (xa 2 (aa (bz (cs:=[_,_]) qm gv rfl .nil trivial rfl) (aa aF (aw (ay dM rfl rfl (by exact .inr ⟨_,rfl⟩) rfl rfl (by decide) rfl (aN rfl aA (ai ?_)))))));change Awp _ _ _ _ _;refine ah ?_;refine⟨_,(.cons (.dn rfl rfl dM rfl) cS),?_⟩;rw[hz];rfl
 ·
  (try simp only[nb,Xv]at bV)
  have he:(mA m a b).2=0:=by simpa using bV
  obtain⟨hm,hw,e⟩:=LV he;have hcx:nH (mA m a b).1:=by rw[e];exact(jY hm hw).2
  have hz:wW m a b=(jy (mA m a b).1,0):=by unfold wW;rw[Xr (by rw[he];simp)]
  refine wO ?_;change Awp _ _ _ _ _;refine ae (xa 2 (aa (aX (ds:=[_,_,_,_,_,_]) gh rfl rfl rfl rfl) (aa (ak NM (.cons rfl .nil) rfl (Af _ hcx)) (aw (ay dM rfl rfl (by exact .inr ⟨_,rfl⟩) rfl rfl (by decide) rfl (aN rfl aA (ai ?_)))))));change Awp _ _ _ _ _;refine ah ?_;refine⟨_,(.cons (.dn rfl rfl dM rfl) cS),?_⟩;rw[hz];rfl
theorem oX(m:Md)(a b:Int × Int):PC qP 166 [.agg (O6 m),.agg (shC a),.agg (shC b)] (.da [.v (.int .i64 (Wu m a b)),.v (.int .i64 ((wW m a b).2))]):=by
 obtain⟨h1,h2,h3,h4⟩:=HG m a b;refine av (qA Tryz.func166 rfl) rfl Tryz.ntmps166 (rs:=[.tmp 6,.tmp 7]) Tryz.results166 (by simp) λw0=>?_;refine ae (xa 5 (aa (aP rfl (by exact .inr ⟨_,rfl⟩)) (aa (aP rfl (by exact .inr ⟨_,rfl⟩)) (aa (aP rfl (by exact .inr ⟨_,rfl⟩)) (aa aA (aa aA (rs (xa 7 (aa (ax (ds:=[_,_,_,_]) lh rfl rfl rfl) (aa (ax (ds:=[_,_]) fM rfl rfl rfl) (aa (ax (ds:=[_,_]) fM rfl rfl rfl) (aa (ak ao2 (.cons rfl (.cons rfl (.cons rfl .nil))) rfl (Cu _ _ _)) (aa (aq (x:=.d (.da _)) rfl) (aa (au rfl rfl) (aa (au rfl rfl) (aw (aD gv rfl rfl rfl (ay dM rfl rfl (by exact .inr ⟨_,rfl⟩) rfl rfl (by decide) rfl (aN rfl aA (ai (xq (xa 9 (aa (aC eu rfl) (aa (aQ bo rfl rfl rfl) (aa (aC fw rfl) (aa (aQ bo rfl rfl rfl) ?_))))))))))))))))))))))))));refine aa (bC rfl rfl xi) ?_;refine aa (ak NL (.cons rfl (.cons rfl .nil)) rfl (F7 _ _ ⟨by omega,by omega⟩ (by omega))) (aa aF (aa aA (aa aA (xc (ah ?_)))));refine⟨_,gz,?_⟩;rfl
theorem ld(n lo hi:Int):PC qP 50 [.v (.int .i64 (n)),.v (.int .i64 (lo)),.v (.int .i64 (hi))] (.v (.bool (dP lo n hi))):=by
 refine av (qA Tryz.func50 rfl) rfl Tryz.ntmps50 (rs:=[.tmp 6]) Tryz.results50 (by simp) λw0=>?_;refine ae (xa 1 (aa aA (rs (xa 9 (aa aF (aa aF (aa (iG rfl rfl) (aa aF (aE rfl rfl (λhG=>aF) (aE rfl rfl (λhG=>aF) (aE rfl rfl (λhG=>(iG rfl rfl)) (aT rfl rfl rfl rfl rfl rfl ?_))))))))))));refine aa aA (xc (ah ?_));refine⟨_,cS,?_⟩;simp only[gX];rfl
theorem oz(n lo hi:Int):PC qP 167 [.v (.int .i64 (n)),.v (.int .i64 (lo)),.v (.int .i64 (hi))] (.v (.bool (dP lo n hi))):=by
 refine av (qA Tryz.func167 rfl) rfl Tryz.ntmps167 (rs:=[.tmp 6]) Tryz.results167 (by simp) λw0=>?_;refine ae (xa 1 (aa aA (rs (xa 9 (aa aF (aa aF (aa (iG rfl rfl) (aa aF (aE rfl rfl (λhG=>aF) (aE rfl rfl (λhG=>aF) (aE rfl rfl (λhG=>(iG rfl rfl)) (aT rfl rfl rfl rfl rfl rfl ?_))))))))))));refine aa aA (xc (ah ?_));refine⟨_,cS,?_⟩;simp only[gX];rfl
theorem DN(n m:Int)(h1:0≤m)(h2:m≤1000000000000):PC qP 160 [.v (.int .i64 (n)),.v (.int .i64 (m))] (.v (.bool (dP (-m) n m))):=by
 refine av (qA Tryz.func160 rfl) rfl Tryz.ntmps160 (rs:=[.tmp 4]) Tryz.results160 (by simp) λw0=>?_;refine ae (xa 1 (aa aA (rs (xa 6 (aa aF (aa aF ?_))))));refine aa (tw rfl xi) (aa aF (aa (ak H5 (.cons rfl (.cons rfl (.cons rfl .nil))) rfl (oz _ _ _)) (aa aA (xc (ah ?_)))));refine⟨_,cS,?_⟩;rfl
theorem wN(l:List Int):PC qP 142 [.sl 1 (l.map iC)] (.v (.int .i64 (firstE l))):=by
 refine av (qA Tryz.func142 rfl) rfl Tryz.ntmps142 (rs:=[.tmp 2]) Tryz.results142 (by simp) λw0=>?_;refine ae (xa 1 (aa aA (rs (ae (xa 3 (aa (aq (x:=.d (.sl _ _)) rfl) (aa (cd FK rfl (by exact aV _ _)) (aa aF (xc (bm (t:=5) rfl (λQ1=>?_)))))))))))
 (try simp only[Xo]at Q1)
 refine az (bG [2,4,7,8,9,10,11,12,13,14] [] (α:=Nat) (λk=>[(7,T.i (k:Int))]) (λk=>[]) (λk=>k≤l.length∧firstE l=firstE (l.drop k)) (λk=>l.length - k) 0 ⟨XC _,rfl⟩ ?_ ?_)
 ·exact xh (ms:=[]) (by repeat (exact Out.refl _)) ⟨(by rfl),trivial⟩ trivial
 ·
  intro k ⟨hk,hf⟩;refine ae (xa 1 (aa (cM rfl rfl) (rs (ao rfl (λbV=>?_) (λbV=>?_)))))
  ·
   (try simp only[nb,Xv]at bV)
   have bH:k<l.length:=by omega
   have hx:=Xp bH;have hd:firstE (l.drop k)=if l[k]=0 then firstE (l.drop (k+1)) else l[k]:=by rw[Yf bH];rfl
   generalize l[k]=x at *;refine wO ?_;change Awp _ _ _ _ _;refine ae (az (ae (xa 3 (aa (aJ oT rfl rfl (by omega) (cm (by omega) hx)) (aa (aj TY rfl rfl) (aa aA (rs (xa 2 (aa aF (aa (bS rfl rfl) (xc (ao rfl (λeJ=>?_) (λeJ=>?_)))))))))))))
   ·
    (try simp only[nb,Xv]at eJ)
    refine ae (xa 2 (aa aF (aa aA (xc (ah ?_)))));refine⟨_,cS,?_⟩;rw[hf,hd,Xr eJ];rfl
   ·
    (try simp only[nb,Xv]at eJ)
    refine wO ?_;change Awp _ _ _ _ _;refine xa 2 ?_;refine aa (bC rfl rfl xi) (aa aF (rn ?_));refine⟨k+1,⟨by omega,by rw[hf,hd,Xu eJ]⟩,by omega,?_⟩;exact xh (ms:=[]) (by repeat (first|exact Out.head rfl rfl|(refine Out.put ?_ rfl))) ⟨(by rfl),trivial⟩ trivial
  ·
   (try simp only[nb,Xv]at bV)
   refine bJ ?_;change Awp _ _ _ _ _;refine ae (xa 1 (aa aA (xc (ah ?_))));refine⟨_,cS,?_⟩;rw[hf,Yu (by omega)];rfl
def c9(b:Bool)(e:Int):Int:=if b=true then e else 0
theorem xP(b:Bool)(e:Int):c9 (!b) e=g9 b e:=by cases b<;>rfl
theorem fL{b:Bool}{e:Int}(he:e≠0):c9 b e=0↔b=false:=by unfold c9;cases b<;>simp_all
theorem uJ(b:Bool)(e:Int):PC qP 144 [.v (.bool (b)),.v (.int .i64 (e))] (.v (.int .i64 (c9 b e))):=by
 refine av (qA Tryz.func144 rfl) rfl Tryz.ntmps144 (rs:=[.tmp 4]) Tryz.results144 (by simp) λw0=>?_;refine ae (xa 1 (aa aA (rs (ae (xa 1 (aa aF (xc (ao rfl (λbW=>?_) (λbW=>?_)))))))))
 ·
  (try simp only[nb,Xv]at bW)
  have hz:c9 b e=e:=by unfold c9;rw[Xu bW]
  refine ae (xa 2 (aa aF (aa aA (xc (ah ?_)))));refine⟨_,cS,?_⟩;rw[hz];rfl
 ·
  (try simp only[nb,Xv]at bW)
  have hz:c9 b e=0:=by unfold c9;rw[Xr (by simpa using bW)]
  refine wO ?_;change Awp _ _ _ _ _;refine ae (xa 1 (aa aA (xc (ah ?_))));refine⟨_,cS,?_⟩;rw[hz];rfl
theorem Fz(a b:Bool):((!a) || !b) = !(a&&b):=by cases a<;>cases b<;>rfl
theorem wM(p:Int × Int):PC qP 143 [.agg (shC p)] (.v (.int .i64 (iT p))):=by
 refine av (qA Tryz.func143 rfl) rfl Tryz.ntmps143 (rs:=[.tmp 2]) Tryz.results143 (by simp) λw0=>?_;refine ae (xa 2 (aa (aP rfl (by exact .inr ⟨_,rfl⟩)) (aa aA (rs (xa 12 (aa (af gU rfl) (aa (aj bo rfl rfl) (aa (ak Tj (.cons rfl (.cons rfl .nil)) rfl (DN _ _ (by omega) (by omega))) (aa (bX rfl) (aa aF (aE rfl rfl (λhG=>(af dQ rfl)) (aE rfl rfl (λhG=>(aj bo rfl rfl)) (aE rfl rfl (λhG=>(ak Tj (.cons rfl (.cons rfl .nil)) rfl (DN _ _ (by omega) (by omega)))) (aE rfl rfl (λhG=>(bX rfl)) (aT rfl rfl rfl rfl rfl rfl ?_)))))))))))))));refine aa (ak Dt (.cons rfl (.cons rfl .nil)) rfl (uJ _ _)) (aa aA (xc (ah ?_)));refine⟨_,cS,?_⟩;unfold iT KX;rw[<-xP];simp only[gX,jJ,<-Fz];rfl
def mX(z t:Int):Int:=g9 (dP 1 z (t - 1)) 22
def ln(s:Int × Int):Int:=if (dP 0 s.1 1000000000000&&dP 1 s.2 100000000)=true then 0 else 2
theorem Fi(p:Int × Int)(t:Int)(h1:2≤t)(h2:t≤20000):PC qP 154 [.agg (shC p),.v (.int .i64 (t))] (.v (.int .i64 (mX p.2 t))):=by
 refine av (qA Tryz.func154 rfl) rfl Tryz.ntmps154 (rs:=[.tmp 4]) Tryz.results154 (by simp) λw0=>?_;refine ae (xa 2 (aa (aP rfl (by exact .inr ⟨_,rfl⟩)) (aa aA (rs (xa 8 (aa (af dQ rfl) (aa (aj bo rfl rfl) (aa aF ?_))))))));refine aa (dk rfl rfl xi) (aa (ak H5 (.cons rfl (.cons rfl (.cons rfl .nil))) rfl (oz _ _ _)) (aa (bX rfl) (aa (ak Dt (.cons rfl (.cons rfl .nil)) rfl (uJ _ _)) (aa aA (xc (ah ?_))))));refine⟨_,cS,?_⟩;unfold mX;rw[<-xP];rfl
theorem uc(s:Int × Int):PC qP 146 [.agg (shC s)] (.v (.int .i64 (ln s))):=by
 refine av (qA Tryz.func146 rfl) rfl Tryz.ntmps146 (rs:=[.tmp 2]) Tryz.results146 (by simp) λw0=>?_;refine ae (xa 2 (aa (aP rfl (by exact .inr ⟨_,rfl⟩)) (aa aA (rs (ae (xa 10 (aa (af AJ rfl) (aa (aj bo rfl rfl) (aa (ak NK (.cons rfl (.cons rfl (.cons rfl .nil))) rfl (ld _ _ _)) (aa (bX rfl) (aa aF (aE rfl rfl (λhG=>(af uF rfl)) (aE rfl rfl (λhG=>(aj bo rfl rfl)) (aE rfl rfl (λhG=>(ak NK (.cons rfl (.cons rfl (.cons rfl .nil))) rfl (ld _ _ _))) (aE rfl rfl (λhG=>(bX rfl)) (aT rfl rfl rfl rfl rfl rfl ?_))))))))))))))));refine xc (ao rfl (λbW=>?_) (λbW=>?_))
 ·
  (try simp only[nb,Xv]at bW)
  have hz:ln s=2:=by unfold ln;rw[Xr (by intro h;simp_all)]
  refine ae (xa 1 (aa aA (xc (ah ?_))));refine⟨_,cS,?_⟩;rw[hz];rfl
 ·
  (try simp only[nb,Xv]at bW)
  have hz:ln s=0:=by unfold ln;rw[Xu (by simp_all)]
  refine wO ?_;change Awp _ _ _ _ _;refine ae (xa 1 (aa aA (xc (ah ?_))));refine⟨_,cS,?_⟩;rw[hz];rfl
def IU(n b:Int):Int:=(2*n+b) / (2*b)
structure rX where
 el:List (Int × Int)
 ou:Md
 ba:Md
 ts:Int × Int
def rN(a:rX):List D:=[.sl 2 (a.el.map shC),.v (.int .i64 a.ou.w),.v (.int .i64 a.ou.m),.v (.int .i64 a.ou.k),.v (.int .i64 a.ou.t),.v (.int .i64 a.ba.w),.v (.int .i64 a.ba.m),.v (.int .i64 a.ba.k),.v (.int .i64 a.ba.t),.v (.int .i64 a.ts.1),.v (.int .i64 a.ts.2)]
def JE(p:Int × Int):Int:=firstE [iT p,c9 (decide (0≤p.2)) 15]
def ckEls:Nat->List (Int × Int)->Int × Int
 | _,[]=>(0,0)
 | i,p::ps=>if JE p≠0 then (i,JE p) else ckEls (i+1) ps
def y6(a:rX):Int:=firstE [gP a.ou,gP a.ba,c9 (decide (a.ou.t≠a.ba.t)) 23,ln a.ts]
def dJ(a:rX):Int × Int:=if a.el.length=0 then (0,10) else if 16<a.el.length then (0,8) else if (ckEls 0 a.el).2≠0 then ckEls 0 a.el else (0,y6 a)
theorem DI{l:List (Int × Int)}{k:Nat}{x:Int × Int}(hx:l[k]?=some x):ckEls k (l.drop k)=if JE x≠0 then ((k:Int),JE x) else ckEls (k+1) (l.drop (k+1)):=by
 obtain⟨bH,rfl⟩:=Xt.1 hx;rw[Yf bH];rfl
theorem DH:∀{l:List (Int × Int)} {i:Nat},(ckEls i l).2=0->∀p∈l,JE p=0
 | [],_,_,p,hp=>by cases hp
 | q::l,i,h,p,hp=>by
  unfold ckEls at h
  by_cases h1:JE q≠0
  ·rw[Xu h1]at h;exact absurd h h1
  ·rw[Xr h1]at h
   rcases Xy.1 hp with rfl|hp
   ·exact XU.1 h1
   ·exact DH h p hp
structure Ej(a:rX):Prop where
 n1:1≤a.el.length
 n2:a.el.length≤16
 el:∀p∈a.el,(-100000≤p.1∧p.1≤100000)∧-100000≤p.2∧p.2<0
 ou:sY a.ou
 ba:sY a.ba
 th:a.ou.t=a.ba.t
 t1:0≤a.ts.1
 t2:a.ts.1≤1000000000000
 t3:1≤a.ts.2
 t4:a.ts.2≤100000000
theorem VO{p:Int × Int}(h:JE p=0):(-100000≤p.1∧p.1≤100000)∧-100000≤p.2∧p.2<0:=by
 unfold JE at h;rw[fe]at h;simp only[Xy,XG,Yn,ZE,forall_eq,nP,fL (show (15:Int)≠0 by omega),YP]at h;omega
theorem iL{a:rX}(h:(dJ a).2=0):Ej a∧dJ a=(0,0):=by
 unfold dJ at h ⊢
 by_cases h1:a.el.length=0
 ·rw[Xu h1]at h;simp at h
 by_cases h2:16<a.el.length
 ·rw[Xr h1,Xu h2]at h;simp at h
 by_cases h3:(ckEls 0 a.el).2≠0
 ·rw[Xr h1,Xr h2,Xu h3]at h;exact absurd h h3
 rw[Xr h1,Xr h2,Xr h3]at h ⊢;simp only at h;have h4:=h;unfold y6 at h4;rw[fe]at h4;simp only[Xy,XG,Yn,ZE,forall_eq,nV,fL (show (23:Int)≠0 by omega),YP,XU]at h4;obtain⟨k1,k2,k3,k4⟩:=h4
 have k5:dP 0 a.ts.1 1000000000000&&dP 1 a.ts.2 100000000:=by
  unfold ln at k4
  split at k4
  ·assumption
  ·cases k4
 simp[dP]at k5;refine⟨⟨by omega,by omega,λp hp=>VO (DH (XU.1 h3) p hp),k1,k2,k3,k5.1.1,k5.1.2,k5.2.1,k5.2.2⟩,by rw[h]⟩
theorem mc(a:rX):PC qP 115 [.agg (rN a)] (.da [.v (.int .i64 ((dJ a).1)),.v (.int .i64 ((dJ a).2))]):=by
 refine av (qA Tryz.func115 rfl) rfl Tryz.ntmps115 (rs:=[.tmp 2,.tmp 3]) Tryz.results115 (by simp) λw0=>?_;refine ae (xa 3 (aa (aP rfl (by exact .inr ⟨_,rfl⟩)) (aa aA (aa aA (rs (az (ae (xa 5 (aa (af du rfl) (aa (aj jP rfl rfl) (aa (cd kA rfl (by exact aV _ _)) (aa (fG rfl rfl) (aa aA (xc (bm (t:=9) rfl (λhl9=>?_))))))))))))))))
 (try simp only[Xo]at hl9)
 refine ao rfl (λbW=>?_) (λbW=>?_)
 ·
  (try simp only[nb,Xv]at bW)
  have hz:dJ a=(0,10):=by unfold dJ;rw[Xu (by omega)]
  refine ae (xa 2 (aa aA (aa aA (xc (ah ?_)))));refine⟨_,gz,?_⟩;rw[hz];rfl
 ·
  (try simp only[nb,Xv]at bW)
  refine ae (xa 5 (aa (af du rfl) (aa (aj jP rfl rfl) (aa (cd kA rfl (by exact aV _ _)) (aa (gM rfl rfl) (aa aA (xc (bm (t:=14) rfl (λaA4=>?_)))))))))
  (try simp only[Xo]at aA4)
  refine ao rfl (λdB=>?_) (λdB=>?_)
  ·
   (try simp only[nb,Xv]at dB)
   have hz:dJ a=(0,8):=by unfold dJ;rw[Xr (by omega),Xu (by omega)]
   refine ae (xa 2 (aa aA (aa aA (xc (ah ?_)))));refine⟨_,gz,?_⟩;rw[hz];rfl
  ·
   (try simp only[nb,Xv]at dB)
   have hz:dJ a=if (ckEls 0 a.el).2≠0 then ckEls 0 a.el else (0,y6 a):=by unfold dJ;rw[Xr (by omega),Xr (by omega)]
   refine wO ?_;change Awp _ _ _ _ _;refine ae (ae (xa 4 (aa (af du rfl) (aa (aj jP rfl rfl) (aa (cd kA rfl (by exact aV _ _)) (aa aF (xc (bm (t:=18) rfl (λVb=>?_)))))))))
   (try simp only[Xo]at Vb)
   refine az (bG [2,3,4,5,6,20,21,22,23,24,25,26,27,28,29,30,31,32,33,34,35,36,37] [] (α:=Nat) (λk=>[(20,T.i (k:Int))]) (λk=>[]) (λk=>k≤a.el.length∧ckEls 0 a.el=ckEls k (a.el.drop k)) (λk=>a.el.length - k) 0 ⟨XC _,rfl⟩ ?_ ?_)
   ·exact xh (ms:=[]) (by repeat (exact Out.refl _)) ⟨(by rfl),trivial⟩ trivial
   ·
    intro k ⟨hk,hf⟩;refine ae (xa 1 (aa (cM rfl rfl) (rs (ao rfl (λl6=>?_) (λl6=>?_)))))
    ·
     (try simp only[nb,Xv]at l6)
     have bH:k<a.el.length:=by omega
     obtain⟨x,hx⟩:∃x,a.el[k]?=some x:=⟨_,Xp bH⟩
     have hd:=DI hx;refine wO ?_;change Awp _ _ _ _ _;refine ae (az (ae (xa 3 (aa aF (aa (aJ xg rfl rfl (by omega) (cm (by omega) hx)) (aa (ax (ds:=[_,_]) fM rfl rfl rfl) (aw (aD r9 rfl rfl rfl (aN rfl aA (ay fM rfl rfl (by exact .inr ⟨_,rfl⟩) rfl rfl (by decide) rfl (ai (xq (xa 9 (aa (aX (ds:=[_,_]) fM rfl rfl rfl rfl) (aa (ak Tp (.cons rfl .nil) rfl (wM _)) (aa (aC dQ rfl) (aa (aQ bo rfl rfl rfl) (aa (Hj rfl rfl) (aa (ak Dt (.cons rfl (.cons rfl .nil)) rfl (uJ _ _)) (aa (bu oT EA rfl rfl (by decide) (.cons rfl (by exact .inl rfl) (.cons rfl (by exact .inl rfl) .nil)) ⟨rfl,rfl,rfl,rfl,trivial⟩ rfl (by decide) rfl) (aa (ak NP (.cons rfl .nil) rfl (wN [_,_])) (aa aA (rs (xa 2 (aa aF (aa (bS rfl rfl) (xc (ao rfl (λCZ=>?_) (λCZ=>?_)))))))))))))))))))))))))))))
     ·
      (try simp only[nb,Xv]at CZ)
      have hb:JE x≠0:=CZ;have eM:ckEls 0 a.el=((k:Int),JE x):=by rw[hf,hd,Xu hb]
      refine ae (xa 4 (aa aF (aa aF (aa aA (aa aA (xc (ah ?_)))))));refine⟨_,gz,?_⟩;rw[hz,eM,Xu hb];rfl
     ·
      (try simp only[nb,Xv]at CZ)
      have hb:JE x=0:=CZ;refine wO ?_;change Awp _ _ _ _ _;refine xa 2 ?_;refine aa (bC rfl rfl xi) (aa aF (rn ?_));refine⟨k+1,⟨by omega,by rw[hf,hd,Xr (by rw[hb];simp)]⟩,by omega,?_⟩;exact xh (ms:=[]) (by repeat (first|exact Out.head rfl rfl|(refine Out.put ?_ rfl)|(refine Out.site ?_ rfl))) ⟨(by rfl),trivial⟩ trivial
    ·
     (try simp only[nb,Xv]at l6)
     have Vh:ckEls 0 a.el=(0,0):=by rw[hf,Yu (by omega)];rfl
     refine bJ ?_;change Awp _ _ _ _ _;refine ae (xa 21 (aa (af iA rfl) (aa (ax (ds:=[_,_,_,_]) lh rfl rfl rfl) (aa (ak Ds (.cons rfl .nil) rfl (iM a.ou)) (aa (af om rfl) (aa (ax (ds:=[_,_,_,_]) lh rfl rfl rfl) (aa (ak Ds (.cons rfl .nil) rfl (iM a.ba)) (aa (af iA rfl) (aa (af fD rfl) (aa (aj bo rfl rfl) (aa (af om rfl) (aa (af fD rfl) (aa (aj bo rfl rfl) (aa (bS rfl rfl) (aa (ak Dt (.cons rfl (.cons rfl .nil)) rfl (uJ _ _)) (aa (af q9 rfl) (aa (ax (ds:=[_,_]) ab4 rfl rfl rfl) (aa (ak ap3 (.cons rfl .nil) rfl (uc a.ts)) (aa (bu oT EA rfl rfl (by decide) (.cons rfl (by exact .inl rfl) (.cons rfl (by exact .inl rfl) (.cons rfl (by exact .inl rfl) (.cons rfl (by exact .inl rfl) .nil)))) ⟨rfl,rfl,rfl,rfl,rfl,rfl,rfl,rfl,trivial⟩ rfl (by decide) rfl) (aa (ak NP (.cons rfl .nil) rfl (wN [_,_,_,_])) (aa aA (aa aA (xc (ah ?_))))))))))))))))))))))));refine⟨_,gz,?_⟩;rw[hz,Vh,Xr (by simp)];rfl
def vk(n:Nat)(p:Int × Int):Int:=c9 (!dP 0 p.1 ((n:Int) - 1) || !dP 0 p.2 ((n:Int) - 1)) 6
theorem Qp{n:Nat}{p:Int × Int}(h:vk n p=0):(0≤p.1∧p.1<n)∧0≤p.2∧p.2<n:=by
 unfold vk at h;rw[fL (by omega)]at h;simp[dP]at h;omega
theorem I4(a:rX)(p:Int × Int)(hl:a.el.length≤1000):PC qP 155 [.agg (rN a),.agg (shC p)] (.v (.int .i64 (vk a.el.length p))):=by
 refine av (qA Tryz.func155 rfl) rfl Tryz.ntmps155 (rs:=[.tmp 4]) Tryz.results155 (by simp) λw0=>?_;refine ae (xa 3 (aa (aP rfl (by exact .inr ⟨_,rfl⟩)) (aa (aP rfl (by exact .inr ⟨_,rfl⟩)) (aa aA (rs (xa 6 (aa (af nz rfl) (aa (af du rfl) (aa (aj jP rfl rfl) (aa (cd kA rfl (by exact aV _ _)) ?_))))))))));refine aa (dk rfl rfl xi) (aa aA (xc (bm (t:=8) rfl (λMW=>?_))))
 (try simp only[Xo]at MW)
 refine ae (xa 14 (aa (cj kF rfl rfl (by omega) (by omega)) (aa (aj bo rfl rfl) (aa aF (aa (ak H5 (.cons rfl (.cons rfl (.cons rfl .nil))) rfl (oz _ _ _)) (aa (bX rfl) (aa aF ?_)))))));refine aE rfl rfl (λhG=>(cj kF rfl rfl (by (have iR:=T.cP (a:=_) hG.1;(try simp only[nb,Xv]at iR);omega)) (by (have iR:=T.cP (a:=_) hG.1;(try simp only[nb,Xv]at iR);omega)))) (aE rfl rfl (λhG=>(aj bo rfl rfl)) (aE rfl rfl (λhG=>aF) (aE rfl rfl (λhG=>(ak H5 (.cons rfl (.cons rfl (.cons rfl .nil))) rfl (oz _ _ _))) (aE rfl rfl (λhG=>(bX rfl)) (aT rfl rfl rfl rfl rfl rfl ?_)))));refine aa (ak Dt (.cons rfl (.cons rfl .nil)) rfl (uJ _ _)) (aa aA (xc (ah ?_)));refine⟨_,cS,?_⟩;unfold vk;simp only[jJ];rfl
def jI(a:rX)(i:Int):Int × Int:=a.el.getD i.toNat (0,0)
def Dy(a:rX)(at_ p:Int × Int):Int:=Wu a.ou (jI a p.1) at_+Wu a.ba (jI a p.2) at_
theorem Dv{a:rX}{i:Int}(h1:0≤i)(h2:i<a.el.length):a.el[i.toNat]?=some (jI a i):=by
 unfold jI;rw[X1,Xp (by omega)];rfl
theorem VR(a:rX)(at_ p:Int × Int):0≤Dy a at_ p∧Dy a at_ p≤40000000000:=by
 have h1:=Ha a.ou (jI a p.1) at_;have h2:=Ha a.ba (jI a p.2) at_;unfold Dy;omega
theorem VQ(a:rX)(t p:Int × Int)(hp:(0≤p.1∧p.1<a.el.length)∧0≤p.2∧p.2<a.el.length):PC qP 153 [.agg (rN a),.agg (shC t),.agg (shC p)] (.v (.int .i64 (Dy a t p))):=by
 obtain⟨⟨p1,p2⟩,p3,p4⟩:=hp;have hx:=Dv p1 p2;have hy:=Dv p3 p4;have r1:=Ha a.ou (jI a p.1) t;have r2:=Ha a.ba (jI a p.2) t;have e1:((p.1.toNat:Nat):Int)=p.1:=by omega
 have e2:((p.2.toNat:Nat):Int)=p.2:=by omega
 refine av (qA Tryz.func153 rfl) rfl Tryz.ntmps153 (rs:=[.tmp 6]) Tryz.results153 (by simp) λw0=>?_;refine ae (xa 4 (aa (aP rfl (by exact .inr ⟨_,rfl⟩)) (aa (aP rfl (by exact .inr ⟨_,rfl⟩)) (aa (aP rfl (by exact .inr ⟨_,rfl⟩)) (aa aA (rs (xa 17 (aa (af nz rfl) (aa (af iA rfl) (aa (ax (ds:=[_,_,_,_]) lh rfl rfl rfl) (aa (af nz rfl) (aa (af du rfl) (aa (aj jP rfl rfl) (aa (cj kF rfl rfl (by omega) (by omega)) (aa (aj bo rfl rfl) (aa (aJ xg rfl rfl (by omega) (cm (k:=p.1.toNat) (by omega) hx)) (aa (ax (ds:=[_,_]) fM rfl rfl rfl) (aa (ax (ds:=[_,_]) fM rfl rfl rfl) (aa (ak Tg (.cons rfl (.cons rfl (.cons rfl .nil))) rfl (oX a.ou (jI a p.1) t)) (aa (aq (x:=.d (.da _)) rfl) (aa (au rfl rfl) (aa (au rfl rfl) (aa aA (aa aA (rs (xa 17 (aa (af nz rfl) (aa (af om rfl) (aa (ax (ds:=[_,_,_,_]) lh rfl rfl rfl) (aa (af nz rfl) (aa (af du rfl) (aa (aj jP rfl rfl) (aa (cj kF rfl rfl (by omega) (by omega)) (aa (aj bo rfl rfl) (aa (aJ xg rfl rfl (by omega) (cm (k:=p.2.toNat) (by omega) hy)) (aa (ax (ds:=[_,_]) fM rfl rfl rfl) (aa (ax (ds:=[_,_]) fM rfl rfl rfl) (aa (ak Tg (.cons rfl (.cons rfl (.cons rfl .nil))) rfl (oX a.ba (jI a p.2) t)) (aa (aq (x:=.d (.da _)) rfl) (aa (au rfl rfl) (aa (au rfl rfl) (aa aA (aa aA (rs (xa 4 (aa aF (aa aF ?_)))))))))))))))))))))))))))))))))))))))))))))));refine aa (bC rfl rfl xi) (aa aA (xc (ah ?_)));refine⟨_,cS,?_⟩;rfl
def su(a:rX)(t p:Int × Int):Int:=IU (Dy a t p - a.ts.1) a.ts.2
def Ch(a:rX)(t p:Int × Int):Int:=if (dJ a).2≠0 then (dJ a).2 else firstE [iT t,mX t.2 a.ou.t,vk a.el.length p]
theorem Su{a:rX}{t p:Int × Int}(h:Ch a t p=0):Ej a∧((0≤p.1∧p.1<a.el.length)∧0≤p.2∧p.2<a.el.length)∧iT t=0∧mX t.2 a.ou.t=0:=by
 unfold Ch at h
 by_cases h1:(dJ a).2≠0
 ·rw[Xu h1]at h;exact absurd h h1
 rw[Xr h1,fe]at h;simp only[Xy,XG,Yn,ZE,forall_eq]at h;exact⟨(iL (XU.1 h1)).1,Qp h.2.2,h.1,h.2.1⟩
theorem Ic(a:rX)(t p:Int × Int):PC qP 140 [.agg (rN a),.agg (shC t),.agg (shC p)] (.da [.agg (rN a),.v (.int .i64 (Ch a t p))]):=by
 refine av (qA Tryz.func140 rfl) rfl Tryz.ntmps140 (rs:=[.cell 6 232,.tmp 7]) Tryz.results140 (by simp) λw0=>?_;refine ae (xa 3 (aa (aP rfl (by exact .inr ⟨_,rfl⟩)) (aa (aP rfl (by exact .inr ⟨_,rfl⟩)) (aa (aP rfl (by exact .inr ⟨_,rfl⟩)) (aw (aD Bs rfl rfl rfl (aN rfl aA (ai (xq (xa 2 (aa (ax (ds:=[_,_,_,_,_,_,_,_,_,_,_]) po rfl rfl rfl) ?_)))))))))));refine aa (bz (cs:=[_,_,_,_,_,_,_,_,_,_,_]) ae5 Bs rfl (.cons rfl (by exact .inr ⟨_,rfl⟩) .nil) ⟨⟨rfl,by decide⟩,trivial⟩ rfl) (aw (aD Bs rfl rfl rfl (ay mJ rfl rfl (by exact .inr ⟨_,rfl⟩) rfl rfl (by decide) rfl (ai (xq (ae (xa 7 (aa (ax (ds:=[_,_,_,_,_,_,_,_,_,_,_]) po rfl rfl rfl) (aa (ak NR (.cons rfl .nil) rfl (mc _)) (aa (aq (x:=.d (.da _)) rfl) (aa (au rfl rfl) (aa (au rfl rfl) (aa aA (aa aA (rs (xa 2 (aa aF (aa (bS rfl rfl) (xc (ao rfl (λdB=>?_) (λdB=>?_)))))))))))))))))))))
 ·
  (try simp only[nb,Xv]at dB)
  have hz:Ch a t p=(dJ a).2:=by unfold Ch;rw[Xu dB]
  refine ae (xa 2 (aa (aX (ds:=[_,_,_,_,_,_,_,_,_,_,_]) mJ rfl rfl rfl rfl) (aa aF (aw (ay mJ rfl rfl (by exact .inr ⟨_,rfl⟩) rfl rfl (by decide) rfl (aN rfl aA (ai ?_)))))));change Awp _ _ _ _ _;refine ah ?_;refine⟨_,(.cons (.dn rfl rfl mJ rfl) cS),?_⟩;rw[hz];rfl
 ·
  (try simp only[nb,Xv]at dB)
  have AE:(dJ a).2=0:=by simpa using dB
  have bg:=(iL AE).1;have ht1:=bg.ou.t1;have ht2:=bg.ou.t2;have Ay:a.el.length≤1000:=by have:=bg.n2;omega
  have hz:Ch a t p=firstE [iT t,mX t.2 a.ou.t,vk a.el.length p]:=by unfold Ch;rw[Xr (by rw[AE];simp)]
  refine wO ?_;change Awp _ _ _ _ _;refine ae (xa 13 (aa (aX (ds:=[_,_,_,_,_,_,_,_,_,_,_]) mJ rfl rfl rfl rfl) (aa (ax (ds:=[_,_]) fM rfl rfl rfl) (aa (ak Tp (.cons rfl .nil) rfl (wM _)) (aa (ax (ds:=[_,_]) fM rfl rfl rfl) (aa (af iA rfl) (aa (af fD rfl) (aa (aj bo rfl rfl) (aa (ak ao8 (.cons rfl (.cons rfl .nil)) rfl (Fi t a.ou.t ht1 ht2)) (aa (aX (ds:=[_,_,_,_,_,_,_,_,_,_,_]) mJ rfl rfl rfl rfl) (aa (ax (ds:=[_,_]) oQ rfl rfl rfl) (aa (ak ao7 (.cons rfl (.cons rfl .nil)) rfl (I4 _ _ Ay)) (aa (bu oT EA rfl rfl (by decide) (.cons rfl (by exact .inl rfl) (.cons rfl (by exact .inl rfl) (.cons rfl (by exact .inl rfl) .nil))) ⟨rfl,rfl,rfl,rfl,rfl,rfl,trivial⟩ rfl (by decide) rfl) (aa (ak NP (.cons rfl .nil) rfl (wN [_,_,_])) (aw (ay mJ rfl rfl (by exact .inr ⟨_,rfl⟩) rfl rfl (by decide) rfl (aN rfl aA (ai ?_))))))))))))))))));change Awp _ _ _ _ _;refine ah ?_;refine⟨_,(.cons (.dn rfl rfl mJ rfl) cS),?_⟩;rw[hz];rfl
def Dx(a:rX)(t p:Int × Int):Int × Int:=if Ch a t p≠0 then (0,Ch a t p) else (Dy a t p,0)
theorem NU(a:rX)(t p:Int × Int):PC qP 139 [.agg (rN a),.agg (shC t),.agg (shC p)] (.da [.v (.int .i64 ((Dx a t p).1)),.v (.int .i64 ((Dx a t p).2))]):=by
 refine av (qA Tryz.func139 rfl) rfl Tryz.ntmps139 (rs:=[.tmp 6,.tmp 7]) Tryz.results139 (by simp) λw0=>?_;refine ae (xa 5 (aa (aP rfl (by exact .inr ⟨_,rfl⟩)) (aa (aP rfl (by exact .inr ⟨_,rfl⟩)) (aa (aP rfl (by exact .inr ⟨_,rfl⟩)) (aa aA (aa aA (rs (xa 7 (aa (ax (ds:=[_,_,_,_,_,_,_,_,_,_,_]) po rfl rfl rfl) (aa (ax (ds:=[_,_]) fM rfl rfl rfl) (aa (ax (ds:=[_,_]) oQ rfl rfl rfl) (aa (ak Tq (.cons rfl (.cons rfl (.cons rfl .nil))) rfl (Ic _ _ _)) (aa (aq (x:=.d (.da _)) rfl) (aa (au rfl rfl) (aa (au rfl rfl) (aw (aD Bs rfl rfl rfl (ay mJ rfl rfl (by exact .inr ⟨_,rfl⟩) rfl rfl (by decide) rfl (aN rfl aA (ai (xq (ae (xa 2 (aa aF (aa (bS rfl rfl) (xc (ao rfl (λbV=>?_) (λbV=>?_))))))))))))))))))))))))))))
 ·
  (try simp only[nb,Xv]at bV)
  have hz:Dx a t p=(0,Ch a t p):=by unfold Dx;rw[Xu bV]
  refine ae (xa 3 (aa aF (aa aA (aa aA (xc (ah ?_))))));refine⟨_,gz,?_⟩;rw[hz];rfl
 ·
  (try simp only[nb,Xv]at bV)
  have ho:Ch a t p=0:=by simpa using bV
  obtain⟨bg,uC,_⟩:=Su ho;have hz:Dx a t p=(Dy a t p,0):=by unfold Dx;rw[Xr (by rw[ho];simp)]
  refine wO ?_;change Awp _ _ _ _ _;refine ae (xa 6 (aa (aX (ds:=[_,_,_,_,_,_,_,_,_,_,_]) mJ rfl rfl rfl rfl) (aa (ax (ds:=[_,_]) fM rfl rfl rfl) (aa (ax (ds:=[_,_]) oQ rfl rfl rfl) (aa (ak ao9 (.cons rfl (.cons rfl (.cons rfl .nil))) rfl (VQ _ _ _ uC)) (aa aA (aa aA (xc (ah ?_)))))))));refine⟨_,gz,?_⟩;rw[hz];rfl
structure Flw where
 kd:Int
 at_:Int × Int
 to_:Int × Int
 pc:Int
 am:Int
 tp:Int
def aC6(x:Flw):List D:=[.v (.int .i64 x.kd),.v (.int .i64 x.at_.1),.v (.int .i64 x.at_.2),.v (.int .i64 x.to_.1),.v (.int .i64 x.to_.2),.v (.int .i64 x.pc),.v (.int .i64 x.am),.v (.int .i64 x.tp)]
theorem FO(f:Int->Bool)(g:FuncId)(cap:List D)(Vm:cA qP g=true)(l:List Int)(hf:∀a∈l,PC qP g (.v (.int .i64 a)::cap) (.v (.bool (f a)))):PC qP 134 [.sl 1 (l.map iC),.fn (.func g) cap] (.v (.int .i64 (idxOf f 0 l))):=by
 refine av (qA Tryz.func134 rfl) rfl Tryz.ntmps134 (rs:=[.tmp 4]) Tryz.results134 (by simp) λw0=>?_;refine ae (xa 1 (aa aA (rs (ae (xa 3 (aa (aq (x:=.d (.sl _ _)) rfl) (aa (cd iX rfl (by exact aV _ _)) (aa aF (xc (bm (t:=6) rfl (λMY=>?_)))))))))))
 (try simp only[Xo]at MY)
 refine az (bG [4,5,8,9,10,11,12,13,14,15,16,17,18] [] (α:=Nat) (λk=>[(8,T.i (k:Int))]) (λk=>[]) (λk=>k≤l.length∧idxOf f 0 l=idxOf f k (l.drop k)) (λk=>l.length - k) 0 ⟨XC _,rfl⟩ ?_ ?_)
 ·exact xh (ms:=[]) (by repeat (exact Out.refl _)) ⟨(by rfl),trivial⟩ trivial
 ·
  intro k ⟨hk,hh⟩;refine ae (xa 1 (aa (cM rfl rfl) (rs (ao rfl (λbV=>?_) (λbV=>?_)))))
  ·
   (try simp only[nb,Xv]at bV)
   have bH:k<l.length:=by omega
   have hx:=Xp bH;have hd:idxOf f k (l.drop k)=if f l[k]=true then (k:Int) else idxOf f (k+1) (l.drop (k+1)):=by rw[Yf bH];rfl
   have hfx:=hf l[k] (ZU bH);generalize l[k]=x at *;refine wO ?_;change Awp _ _ _ _ _;refine ae (az (ae (xa 2 (aa aF (aa aA (rs (xa 6 (aa (aq (x:=.d (.fn _ _)) rfl) (aa (aq (x:=.d (.sl _ _)) rfl) (aa aF (aa (aJ gK rfl rfl (by omega) (cm (by omega) hx)) (aa (aj bo rfl rfl) (aa (Hk Vm rfl (.cons rfl .nil) (hfx)) (xc (ao rfl (λeJ=>?_) (λeJ=>?_))))))))))))))))
   ·
    (try simp only[nb,Xv]at eJ)
    refine ae (xa 2 (aa aF (aa aA (xc (ah ?_)))));refine⟨_,cS,?_⟩;rw[hh,hd,Xu (by simpa using eJ)];rfl
   ·
    (try simp only[nb,Xv]at eJ)
    refine wO ?_;change Awp _ _ _ _ _;refine xa 2 ?_;refine aa (bC rfl rfl xi) (aa aF (rn ?_));refine⟨k+1,⟨by omega,by rw[hh,hd,Xr (by simpa using eJ)]⟩,by omega,?_⟩;exact xh (ms:=[]) (by repeat (first|exact Out.head rfl rfl|(refine Out.put ?_ rfl))) ⟨(by rfl),trivial⟩ trivial
  ·
   (try simp only[nb,Xv]at bV)
   refine bJ ?_;change Awp _ _ _ _ _;refine ae (xa 1 (aa aA (xc (ah ?_))));refine⟨_,cS,?_⟩;rw[hh,Yu (by omega)];rfl
theorem yH{α:Type}(f:α->Bool):∀(l:List α) (i:Nat),decide (0≤idxOf f i l)=l.any f
 | [],i=>by unfold idxOf;simp
 | x::xs,i=>by
  unfold idxOf
  by_cases h:f x=true
  ·rw[Xu h];simp[h]
  ·rw[Xr h,yH f xs];simp[h]
theorem yG{α:Type}(f:α->Bool)(l:List α):decide (0≤idxOf f 0 l)=l.any f:=yH f l 0
theorem xL(f:Int->Bool)(g:FuncId)(cap:List D)(Vm:cA qP g=true)(l:List Int)(hf:∀a∈l,PC qP g (.v (.int .i64 a)::cap) (.v (.bool (f a)))):PC qP 105 [.sl 1 (l.map iC),.fn (.func g) cap] (.v (.bool (l.any f))):=by
 have hm:=yG f l;refine av (qA Tryz.func105 rfl) rfl Tryz.ntmps105 (rs:=[.tmp 4]) Tryz.results105 (by simp) λw0=>?_;refine ae (xa 1 (aa aA (rs (xa 5 (aa (aq (x:=.d (.sl _ _)) rfl) (aa (aq (x:=.d (.fn _ _)) rfl) (aa (ak aq0 (.cons rfl (.cons rfl .nil)) rfl (FO f g cap Vm l hf)) (aa (Hj rfl rfl) (aa aA (xc (ah ?_)))))))))));refine⟨_,cS,?_⟩;rw[<-hm];rfl
structure Spc where
 ar:rX
 pl:List Int
 fl:List Flw
def au4(s:Spc):List D:=[.sl 2 (s.ar.el.map shC),.v (.int .i64 s.ar.ou.w),.v (.int .i64 s.ar.ou.m),.v (.int .i64 s.ar.ou.k),.v (.int .i64 s.ar.ou.t),.v (.int .i64 s.ar.ba.w),.v (.int .i64 s.ar.ba.m),.v (.int .i64 s.ar.ba.k),.v (.int .i64 s.ar.ba.t),.v (.int .i64 s.ar.ts.1),.v (.int .i64 s.ar.ts.2),.sl 1 (s.pl.map iC),.sl 8 (s.fl.map aC6)]
def iv(n:Int):D:=.v (.int .i64 n)
def fv(n:Int):D:=.v (.float .f32 (FloatKind.f32.nearest n))
def fC(b:Nat):List D:=[.v (.float .f32 b)]
def fz:D:=.v (.float .f32 0)
theorem yf{cs xs:List D}(h:xs.length=cs.length):dL cs 0 xs=xs:=by
 unfold dL;rw[List.take_zero,XK,h,ZI];simp
def fd(b:Nat):D:=.v (.float .f32 b)
theorem Ny(l:List Nat):((l.map fd).map λd=>[d])=l.map fC:=by rw[List.map_map];rfl
theorem cX(n lo hi:Int):PC qP 42 [.v (.int .i64 (n)),.v (.int .i64 (lo)),.v (.int .i64 (hi))] (.v (.bool (dP lo n hi))):=by
 refine av (qA Tryz.func42 rfl) rfl Tryz.ntmps42 (rs:=[.tmp 6]) Tryz.results42 (by simp) λw0=>?_;refine ae (xa 1 (aa aA (rs (xa 9 (aa aF (aa aF (aa (iG rfl rfl) (aa aF (aE rfl rfl (λhG=>aF) (aE rfl rfl (λhG=>aF) (aE rfl rfl (λhG=>(iG rfl rfl)) (aT rfl rfl rfl rfl rfl rfl ?_))))))))))));refine aa aA (xc (ah ?_));refine⟨_,cS,?_⟩;unfold dP;simp only[gX];rfl
variable{P:Program}{w0:Cx}{n:Nat}{s:Nat->Site}{ev:Operand->T}{dst:Option Tmp}{ty:TypeId}{pos:String}{after:Array Edge}{g:Option (Nat × Bool)}
theorem Lp{t:TypeId}{y:Operand}{f off m:Nat}{ft:TypeId}{cs ds:List D}(ht:(match P.underlying t with|some (.struct fs)=>(fs[f]?).map (λfd=>(fd.offset,fd.type))|_=>none)=some (off,ft))(hs:szB P ft true m=true)(hy:ev y=.d (.agg cs))(hd:(cs.drop off).take m=ds)(hl:ds.length=m):QOp P w0 n s ev ⟨dst,.field t y f,ty,pos,after,g⟩ (.d (.agg ds)):=
 .mk λa w ok blk val h _ cv=>by
  subst hd;obtain⟨vs,hv,hL,jO⟩:=oD (show Rep w _ (.agg cs) (a.eval y) by have:=h y;rw[hy]at this;exact this);have hlen:vs.length=cs.length:=hL.length;refine⟨.agg ((vs.drop off).take m).toArray,w,?_,Ext.refl w,?_⟩
  ·cases hu:P.underlying t with
   | none=>simp[hu]at ht
   | some q=>
    cases q<;>simp only[hu,reduceCtorEq]at ht
    rename_i fs
    cases hf:fs[f]? with
    | none=>simp[hf]at ht
    | some fd=>
     simp only[hf,XB,XS,ZM]at ht;obtain⟨e1,e2⟩:=ht;subst e1;subst e2;simp[execOp,Instr.field,run_underlying hu,hf,hv,asAgg,part,gn hs,ju hs]
  ·refine Rep.agg _ _ (by rw[Ya,ZW,Ya,ZW,hlen]) (λj d hj=>?_) (λj d v hj hv=>?_)
   ·rw[Yq]at hj
    split at hj
    ·rw[Yk]at hj;exact jO _ d hj
    ·cases hj
   ·rw[Yq]at hj hv
    split at hj
    ·rename_i J6
     rw[Xu J6,Yk]at hv;rw[Yk]at hj;exact hL.get _ d v hj hv
    ·cases hj
def af3:Md:=⟨2500,5000,0,1000⟩
def af2:Spc:=⟨⟨[(0,-300)],af3,af3,(3900000,50000)⟩,[3,-2],[⟨0,(0,400),(0,0),0,10,0⟩]⟩
def exB:List Nat:=0::0::1106247680::3248488448::List.replicate 60 0
theorem af1  : PC qP 63 [] (.agg (au4 af2)):=by
 refine av (qA Tryz.func63 rfl) rfl Tryz.ntmps63 (rs:=[.cell 0 142]) Tryz.results63 (by simp) λw0=>?_;refine ae (xa 0 (aw (aD R4 rfl rfl rfl (ai (xq (xa 1 ?_))))));refine aa (bz (cs:=[_,_,_,_]) av8 Xh rfl (.cons rfl (by exact .inl rfl) (.cons rfl (by exact .inl rfl) (.cons rfl (by exact .inl rfl) .nil))) ⟨⟨rfl,by decide⟩,⟨rfl,by decide⟩,⟨rfl,by decide⟩,trivial⟩ rfl) (aw (aD Xh rfl rfl rfl (ay lh rfl rfl (by exact .inr ⟨_,rfl⟩) rfl rfl (by decide) rfl (ai (xq (xa 11 ?_))))));refine aa (bz (cs:=[_,_]) LG r9 rfl (.cons rfl (by exact .inl rfl) (.cons rfl (by exact .inl rfl) .nil)) ⟨⟨rfl,by decide⟩,⟨rfl,by decide⟩,trivial⟩ rfl) (aa (bu xg r9 rfl rfl (by decide) (.cons rfl (by exact .inr ⟨_,rfl⟩) .nil) ⟨rfl,rfl,trivial⟩ rfl (by decide) rfl) (aa (aX (ds:=[_,_,_,_]) lh rfl rfl rfl rfl) (aa (aX (ds:=[_,_,_,_]) lh rfl rfl rfl rfl) ?_)));refine aa (bz (cs:=[_,_]) av7 at5 rfl (.cons rfl (by exact .inl rfl) (.cons rfl (by exact .inl rfl) .nil)) ⟨⟨rfl,by decide⟩,⟨rfl,by decide⟩,trivial⟩ rfl) ?_;refine aa (bz (cs:=[_,_,_,_,_,_,_,_,_,_,_]) av6 Xe rfl (.cons rfl (by exact .inl rfl) (.cons rfl (by exact .inr ⟨_,rfl⟩) (.cons rfl (by exact .inr ⟨_,rfl⟩) (.cons rfl (by exact .inr ⟨_,rfl⟩) .nil)))) ⟨⟨rfl,by decide⟩,⟨rfl,by decide⟩,⟨rfl,by decide⟩,⟨rfl,by decide⟩,trivial⟩ rfl) (aa (bu gK Br rfl rfl (by decide) (.cons rfl (by exact .inl rfl) (.cons rfl (by exact .inl rfl) .nil)) ⟨rfl,rfl,rfl,rfl,trivial⟩ rfl (by decide) rfl) ?_);refine aa (bz (cs:=[_,_]) LG r9 rfl (.cons rfl (by exact .inl rfl) (.cons rfl (by exact .inl rfl) .nil)) ⟨⟨rfl,by decide⟩,⟨rfl,by decide⟩,trivial⟩ rfl) ?_;refine aa (bz (cs:=[_,_,_,_,_,_,_,_]) ae6 R3 rfl (.cons rfl (by exact .inr ⟨_,rfl⟩) (.cons rfl (by exact .inl rfl) .nil)) ⟨⟨rfl,by decide⟩,⟨rfl,by decide⟩,trivial⟩ rfl) (aa (bu ac1 R3 rfl rfl (by decide) (.cons rfl (by exact .inr ⟨_,rfl⟩) .nil) ⟨rfl,rfl,trivial⟩ rfl (by decide) rfl) ?_);refine aa (bz ae7 R4 rfl (.cons rfl (by exact .inr ⟨_,rfl⟩) (.cons rfl (by exact .inl rfl) (.cons rfl (by exact .inl rfl) .nil))) ⟨⟨rfl,by decide⟩,⟨rfl,by decide⟩,⟨rfl,by decide⟩,trivial⟩ rfl) (aw (ay Sb rfl rfl (by exact .inr ⟨_,rfl⟩) rfl rfl (by decide) rfl (ai ?_)));change Awp _ _ _ _ _;refine ah ?_;refine⟨_,(.cons (.dn rfl rfl Sb rfl) .nil),?_⟩;rfl
theorem IV(p:Int × Int):PC qP 125 [.agg (shC p)] (.v (.bool ((dP (-100000) p.1 100000&&dP (-100000) p.2 100000)))):=by
 refine av (qA Tryz.func125 rfl) rfl Tryz.ntmps125 (rs:=[.tmp 2]) Tryz.results125 (by simp) λw0=>?_;refine ae (xa 2 (aa (aP rfl (by exact .inr ⟨_,rfl⟩)) (aa aA (rs (xa 9 (aa (af gU rfl) (aa (aj bo rfl rfl) (aa (ak nA (.cons rfl (.cons rfl (.cons rfl .nil))) rfl (cX _ _ _)) (aa aF (aE rfl rfl (λhG=>(af dQ rfl)) (aE rfl rfl (λhG=>(aj bo rfl rfl)) (aE rfl rfl (λhG=>(ak nA (.cons rfl (.cons rfl (.cons rfl .nil))) rfl (cX _ _ _))) (aT rfl rfl rfl rfl rfl rfl ?_)))))))))))));refine aa aA (xc (ah ?_));refine⟨_,cS,?_⟩;simp only[gX];rfl
theorem KW(p:Int × Int):iT p=if (dP (-100000) p.1 100000&&dP (-100000) p.2 100000)=true then 0 else 2:=by
 by_cases h:iT p=0
 ·rw[h]
  have:=nP.1 h;rw[Xu (by simp[dP];omega)]
 ·have h2 : iT p = 2 := by
   unfold iT g9 at h ⊢
   split at h
   ·exact absurd rfl h
   ·rename_i q;rw[Xr q]
  rw[h2,Xr];intro q;simp[dP]at q;exact h (nP.2 (by omega))
theorem Jg(m:Md):(if firstE [gw m.w,gw m.m]≠0 then firstE [gw m.w,gw m.m] else if (!dP 0 m.k 4 || !dP 2 m.t 20000)=true then 2 else 0)=gP m:=by
 unfold gP g9 firstE
 by_cases h1:gw m.w=0
 ·simp only[firstE,h1,Yp]
  by_cases h2:gw m.m=0
  ·simp only[h2,Yp]
   cases dP 0 m.k 4<;>cases dP 2 m.t 20000<;>simp
  ·simp[h2]
 ·simp[firstE,h1]
theorem s8(v:Int):PC qP 149 [.v (.int .i64 (v))] (.v (.int .i64 (gw v))):=by
 refine av (qA Tryz.func149 rfl) rfl Tryz.ntmps149 (rs:=[.tmp 2]) Tryz.results149 (by simp) λw0=>?_;refine ae (xa 1 (aa aA (rs (ae (xa 3 (aa aF (aa (ak nA (.cons rfl (.cons rfl (.cons rfl .nil))) rfl (cX _ _ _)) (aa (bX rfl) (xc (ao rfl (λbW=>?_) (λbW=>?_)))))))))))
 ·
  (try simp only[nb,Xv]at bW)
  have hz:gw v=2:=by unfold gw g9;rw[Xr (by simp_all)]
  refine ae (xa 1 (aa aA (xc (ah ?_))));refine⟨_,cS,?_⟩;rw[hz];rfl
 ·
  (try simp only[nb,Xv]at bW)
  have hz:gw v=0:=by unfold gw g9;rw[Xu (by simp_all)]
  refine wO ?_;change Awp _ _ _ _ _;refine ae (xa 1 (aa aA (xc (ah ?_))));refine⟨_,cS,?_⟩;rw[hz];rfl
theorem JA(l:List Int):PC qP 148 [.sl 1 (l.map iC)] (.v (.int .i64 (firstE l))):=by
 refine av (qA Tryz.func148 rfl) rfl Tryz.ntmps148 (rs:=[.tmp 2]) Tryz.results148 (by simp) λw0=>?_;refine ae (xa 1 (aa aA (rs (ae (xa 1 (aa aA (xc (az (bG [2,3,4,5,6,7,8,9,10,11,12,13,14,15,16,17,18] [] (α:=Nat) (λk=>[(3,T.i (k:Int))]) (λk=>[]) (λk=>k≤l.length∧firstE l=firstE (l.drop k)) (λk=>l.length - k) 0 ⟨XC _,rfl⟩ ?_ ?_)))))))))
 ·exact xh (ms:=[]) (by repeat (exact Out.refl _)) ⟨(by rfl),trivial⟩ trivial
 ·
  intro k ⟨hk,hf⟩;refine ae (ae (xa 4 (aa aF (aa (aq (x:=.d (.sl _ _)) rfl) (aa (cd iX rfl (by exact aV _ _)) (aa (cM rfl rfl) (xc (bm (t:=5) rfl (λQ1=>?_)))))))))
  (try simp only[Xo]at Q1)
  refine ao rfl (λbV=>?_) (λbV=>?_)
  ·
   (try simp only[nb,Xv]at bV)
   have bH:k<l.length:=by omega
   obtain⟨y,hx⟩:∃y,l[k]?=some y:=⟨_,Xp bH⟩
   have hd:firstE (l.drop k)=if y=0 then firstE (l.drop (k+1)) else y:=by
    rw[Yf bH,(Xt.1 hx).2];rfl
   refine wO ?_;change Awp _ _ _ _ _;refine ae (az (ae (xa 5 (aa (aq (x:=.d (.sl _ _)) rfl) (aa aF (aa (aJ gK rfl rfl (by omega) (cm (by omega) hx)) (aa (aj bo rfl rfl) (aa (bS rfl rfl) (xc (ao rfl (λeJ=>?_) (λeJ=>?_)))))))))))
   ·
    (try simp only[nb,Xv]at eJ)
    refine ae (xa 5 (aa (aq (x:=.d (.sl _ _)) rfl) (aa aF (aa (aJ gK rfl rfl (by omega) (cm (by omega) hx)) (aa (aj bo rfl rfl) (aa aA (xc (ah ?_))))))));refine⟨_,cS,?_⟩;rw[hf,hd,Xr (by omega)];rfl
   ·
    (try simp only[nb,Xv]at eJ)
    refine wO ?_;change Awp _ _ _ _ _;refine xa 3 (aa aF ?_);refine aa (bC rfl rfl xi) (aa aA (rn ?_));refine⟨k+1,⟨by omega,by rw[hf,hd,Xu (by omega)]⟩,by omega,?_⟩;exact xh (ms:=[]) (by repeat (first|exact Out.head rfl rfl|(refine Out.put ?_ rfl))) ⟨(by rfl),trivial⟩ trivial
  ·
   (try simp only[nb,Xv]at bV)
   refine bJ ?_;change Awp _ _ _ _ _;refine ae (xa 1 (aa aA (xc (ah ?_))));refine⟨_,cS,?_⟩;rw[hf,Yu (by omega)];rfl
theorem pX(m:Md):PC qP 126 [.agg (O6 m)] (.v (.int .i64 (gP m))):=by
 have hr:=Jg m;refine av (qA Tryz.func126 rfl) rfl Tryz.ntmps126 (rs:=[.tmp 2]) Tryz.results126 (by simp) λw0=>?_;refine ae (xa 2 (aa (aP rfl (by exact .inr ⟨_,rfl⟩)) (aa aA (rs (ae (xa 9 (aa (af AL rfl) (aa (aj bo rfl rfl) (aa (ak To (.cons rfl .nil) rfl (s8 _)) (aa (af AK rfl) (aa (aj bo rfl rfl) (aa (ak To (.cons rfl .nil) rfl (s8 _)) (aa (bu gK Br rfl rfl (by decide) (.cons rfl (by exact .inl rfl) (.cons rfl (by exact .inl rfl) .nil)) ⟨rfl,rfl,rfl,rfl,trivial⟩ rfl (by decide) rfl) (aa (ak ap1 (.cons rfl .nil) rfl (JA [_,_])) (aa aA (rs (xa 2 (aa aF (aa (bS rfl rfl) (xc (ao rfl (λbV=>?_) (λbV=>?_))))))))))))))))))))))
 ·
  (try simp only[nb,Xv]at bV)
  rw[Xu bV]at hr;refine ae (xa 2 (aa aF (aa aA (xc (ah ?_)))));refine⟨_,cS,?_⟩;rw[<-hr];rfl
 ·
  (try simp only[nb,Xv]at bV)
  rw[Xr (λh=>h bV)]at hr;refine wO ?_;change Awp _ _ _ _ _;refine ae (ae (xa 10 (aa (af rf rfl) (aa (aj bo rfl rfl) (aa (ak nA (.cons rfl (.cons rfl (.cons rfl .nil))) rfl (cX _ _ _)) (aa (bX rfl) (aa aF (aE rfl rfl (λhG=>(af fD rfl)) (aE rfl rfl (λhG=>(aj bo rfl rfl)) (aE rfl rfl (λhG=>(ak nA (.cons rfl (.cons rfl (.cons rfl .nil))) rfl (cX _ _ _))) (aE rfl rfl (λhG=>(bX rfl)) (aT rfl rfl rfl rfl rfl rfl ?_))))))))))));refine xc (ao rfl (λeJ=>?_) (λeJ=>?_))
  ·
   (try simp only[nb,Xv]at eJ)
   rw[Xu (by simp_all)]at hr;refine ae (xa 1 (aa aA (xc (ah ?_))));refine⟨_,cS,?_⟩;rw[<-hr];rfl
  ·
   (try simp only[nb,Xv]at eJ)
   rw[Xr (by simp_all)]at hr;refine wO ?_;change Awp _ _ _ _ _;refine ae (xa 1 (aa aA (xc (ah ?_))));refine⟨_,cS,?_⟩;rw[<-hr];rfl
theorem SA{m:Md}{a b:Int × Int}(hm:sY m)(hw:ph m a b=0):wW m a b=(jy (lb m a b).1,0):=by
 have h1:gP m=0:=nV.2 hm;have ho:mA m a b=lb m a b:=by unfold mA;rw[Xr (λq=>q h1)]
 unfold wW;rw[ho,(jY hm hw).1];rfl
theorem sA(s:Int × Int):PC qP 127 [.agg (shC s)] (.v (.int .i64 (ln s))):=by
 refine av (qA Tryz.func127 rfl) rfl Tryz.ntmps127 (rs:=[.tmp 2]) Tryz.results127 (by simp) λw0=>?_;refine ae (xa 2 (aa (aP rfl (by exact .inr ⟨_,rfl⟩)) (aa aA (rs (ae (xa 10 (aa (af AJ rfl) (aa (aj bo rfl rfl) (aa (ak nA (.cons rfl (.cons rfl (.cons rfl .nil))) rfl (cX _ _ _)) (aa (bX rfl) (aa aF (aE rfl rfl (λhG=>(af uF rfl)) (aE rfl rfl (λhG=>(aj bo rfl rfl)) (aE rfl rfl (λhG=>(ak nA (.cons rfl (.cons rfl (.cons rfl .nil))) rfl (cX _ _ _))) (aE rfl rfl (λhG=>(bX rfl)) (aT rfl rfl rfl rfl rfl rfl ?_))))))))))))))));refine xc (ao rfl (λbW=>?_) (λbW=>?_))
 ·
  (try simp only[nb,Xv]at bW)
  have hz:ln s=2:=by unfold ln;rw[Xr (by intro h;simp_all)]
  refine ae (xa 1 (aa aA (xc (ah ?_))));refine⟨_,cS,?_⟩;rw[hz];rfl
 ·
  (try simp only[nb,Xv]at bW)
  have hz:ln s=0:=by unfold ln;rw[Xu (by simp_all)]
  refine wO ?_;change Awp _ _ _ _ _;refine ae (xa 1 (aa aA (xc (ah ?_))));refine⟨_,cS,?_⟩;rw[hz];rfl
theorem VP(p:Int × Int):JE p=if (dP (-100000) p.1 100000&&dP (-100000) p.2 100000)=true then (if 0≤p.2 then 15 else 0) else 2:=by
 unfold JE;rw[KW p]
 by_cases h:(dP (-100000) p.1 100000&&dP (-100000) p.2 100000)=true
 ·rw[Xu h,Xu h]
  unfold firstE;rw[Xu rfl];unfold firstE c9
  by_cases h2:0≤p.2
  ·simp[firstE,h2]
  ·simp[firstE,h2]
 ·rw[Xr h,Xr h];rfl
theorem VA(a b c d:Int):firstE [a,b,c,d]=if a≠0 then a else if b≠0 then b else if c≠0 then c else d:=by
 unfold firstE
 by_cases h1:a=0
 ·rw[Xu h1,Xr (λq=>q h1)]
  unfold firstE
  by_cases h2:b=0
  ·rw[Xu h2,Xr (λq=>q h2)]
   unfold firstE
   by_cases h3:c=0
   ·rw[Xu h3,Xr (λq=>q h3)]
    unfold firstE
    by_cases h4:d=0
    ·rw[Xu h4,h4];rfl
    ·rw[Xr h4]
   ·rw[Xr h3,Xu h3]
  ·rw[Xr h2,Xu h2]
 ·rw[Xr h1,Xu h1]
theorem B3(a:rX):PC qP 93 [.agg (rN a)] (.da [.v (.int .i64 ((dJ a).1)),.v (.int .i64 ((dJ a).2))]):=by
 have hu:dJ a=if a.el.length=0 then (0,10) else if 16<a.el.length then (0,8) else if (ckEls 0 a.el).2≠0 then ckEls 0 a.el else (0,y6 a):=rfl
 have h4:y6 a=if gP a.ou≠0 then gP a.ou else if gP a.ba≠0 then gP a.ba else if c9 (decide (a.ou.t≠a.ba.t)) 23≠0 then c9 (decide (a.ou.t≠a.ba.t)) 23 else ln a.ts:=VA _ _ _ _
 refine av (qA Tryz.func93 rfl) rfl Tryz.ntmps93 (rs:=[.tmp 2,.tmp 3]) Tryz.results93 (by simp) λw0=>?_;refine ae (xa 3 (aa (aP rfl (by exact .inr ⟨_,rfl⟩)) (aa aA (aa aA (rs (ae (xa 4 (aa (af du rfl) (aa (aj jP rfl rfl) (aa (cd kA rfl (by exact aV _ _)) (aa (fG rfl rfl) (xc (bm (t:=8) rfl (λMW=>?_))))))))))))))
 (try simp only[Xo]at MW)
 refine ao rfl (λbW=>?_) (λbW=>?_)
 ·
  (try simp only[nb,Xv]at bW)
  rw[Xu (by omega)]at hu;refine ae (xa 2 (aa aA (aa aA (xc (ah ?_)))));refine⟨_,gz,?_⟩;rw[hu];rfl
 ·
  (try simp only[nb,Xv]at bW)
  rw[Xr (by omega)]at hu;refine wO ?_;change Awp _ _ _ _ _;refine ae (ae (xa 4 (aa (af du rfl) (aa (aj jP rfl rfl) (aa (cd kA rfl (by exact aV _ _)) (aa (gM rfl rfl) (xc (bm (t:=12) rfl (λMZ=>?_)))))))))
  (try simp only[Xo]at MZ)
  refine ao rfl (λdB=>?_) (λdB=>?_)
  ·
   (try simp only[nb,Xv]at dB)
   rw[Xu (by omega)]at hu;refine ae (xa 2 (aa aA (aa aA (xc (ah ?_)))));refine⟨_,gz,?_⟩;rw[hu];rfl
  ·
   (try simp only[nb,Xv]at dB)
   rw[Xr (by omega)]at hu;refine wO ?_;change Awp _ _ _ _ _;refine ae (ae (xa 1 (aa aA (xc (az (bG [2,3,4,15,16,17,18,19,20,21,22,23,24,25,26,27,28,29,30,31,32,33,34,35,36,37] [] (α:=Nat) (λk=>[(4,T.i (k:Int))]) (λk=>[]) (λk=>k≤a.el.length∧ckEls 0 a.el=ckEls k (a.el.drop k)) (λk=>a.el.length - k) 0 ⟨XC _,rfl⟩ ?_ ?_))))))
   ·exact xh (ms:=[]) (by repeat (exact Out.refl _)) ⟨(by rfl),trivial⟩ trivial
   ·
    intro k ⟨hk,hf⟩;refine ae (ae (xa 5 (aa aF (aa (af du rfl) (aa (aj jP rfl rfl) (aa (cd kA rfl (by exact aV _ _)) (aa (cM rfl rfl) (xc (bm (t:=17) rfl (λVd=>?_))))))))))
    (try simp only[Xo]at Vd)
    refine ao rfl (λl6=>?_) (λl6=>?_)
    ·
     (try simp only[nb,Xv]at l6)
     have bH:k<a.el.length:=by omega
     obtain⟨x,hx⟩:∃x,a.el[k]?=some x:=⟨_,Xp bH⟩
     have hd:=DI hx;have he:=VP x;refine wO ?_;change Awp _ _ _ _ _;refine ae (az (ae (ae (xa 7 (aa (af du rfl) (aa (aj jP rfl rfl) (aa aF (aa (aJ xg rfl rfl (by omega) (cm (by omega) hx)) (aa (ax (ds:=[_,_]) fM rfl rfl rfl) (aa (ak aq3 (.cons rfl .nil) rfl (IV _)) (aa (bX rfl) (xc (ao rfl (λoM=>?_) (λoM=>?_))))))))))))))
     ·
      (try simp only[nb,Xv]at oM)
      rw[Xr (by rcases oM with q|q<;>simp[q])]at he;have hz:ckEls 0 a.el=((k:Int),2):=by rw[hf,hd,he];rfl
      rw[hz]at hu;refine ae (xa 3 (aa aF (aa aA (aa aA (xc (ah ?_))))));refine⟨_,gz,?_⟩;rw[hu];rfl
     ·
      (try simp only[nb,Xv]at oM)
      rw[Xu (by simp[oM.1,oM.2])]at he;refine wO ?_;change Awp _ _ _ _ _;refine ae (xa 7 (aa (af du rfl) (aa (aj jP rfl rfl) (aa aF (aa (aJ xg rfl rfl (by omega) (cm (by omega) hx)) (aa (af dQ rfl) (aa (aj bo rfl rfl) (aa (Hj rfl rfl) (xc (ao rfl (λlF=>?_) (λlF=>?_)))))))))))
      ·
       (try simp only[nb,Xv]at lF)
       rw[Xu lF]at he;have hz:ckEls 0 a.el=((k:Int),15):=by rw[hf,hd,he];rfl
       rw[hz]at hu;refine ae (xa 3 (aa aF (aa aA (aa aA (xc (ah ?_))))));refine⟨_,gz,?_⟩;rw[hu];rfl
      ·
       (try simp only[nb,Xv]at lF)
       rw[Xr (by omega)]at he;refine wO ?_;change Awp _ _ _ _ _;refine xa 3 (aa aF ?_);refine aa (bC rfl rfl xi) (aa aA (rn ?_));refine⟨k+1,⟨by omega,by rw[hf,hd,Xr (by rw[he];simp)]⟩,by omega,?_⟩;exact xh (ms:=[]) (by repeat (first|exact Out.head rfl rfl|(refine Out.put ?_ rfl))) ⟨(by rfl),trivial⟩ trivial
    ·
     (try simp only[nb,Xv]at l6)
     have Vh:ckEls 0 a.el=(0,0):=by rw[hf,Yu (by omega)];rfl
     rw[Vh,Xr (by decide)]at hu;refine bJ ?_;change Awp _ _ _ _ _;refine ae (ae (xa 4 (aa (af iA rfl) (aa (ax (ds:=[_,_,_,_]) lh rfl rfl rfl) (aa (ak Ts (.cons rfl .nil) rfl (pX a.ou)) (aa aA (rs (xa 2 (aa aF (aa (bS rfl rfl) (xc (ao rfl (λoN=>?_) (λoN=>?_)))))))))))))
     ·
      (try simp only[nb,Xv]at oN)
      rw[Xu oN]at h4;refine ae (xa 3 (aa aF (aa aA (aa aA (xc (ah ?_))))));refine⟨_,gz,?_⟩;rw[hu,h4];rfl
     ·
      (try simp only[nb,Xv]at oN)
      rw[Xr (λq=>q oN)]at h4;refine wO ?_;change Awp _ _ _ _ _;refine ae (ae (xa 4 (aa (af om rfl) (aa (ax (ds:=[_,_,_,_]) lh rfl rfl rfl) (aa (ak Ts (.cons rfl .nil) rfl (pX a.ba)) (aa aA (rs (xa 2 (aa aF (aa (bS rfl rfl) (xc (ao rfl (λqM=>?_) (λqM=>?_)))))))))))))
      ·
       (try simp only[nb,Xv]at qM)
       rw[Xu qM]at h4;refine ae (xa 3 (aa aF (aa aA (aa aA (xc (ah ?_))))));refine⟨_,gz,?_⟩;rw[hu,h4];rfl
      ·
       (try simp only[nb,Xv]at qM)
       rw[Xr (λq=>q qM)]at h4;refine wO ?_;change Awp _ _ _ _ _;refine ae (ae (xa 7 (aa (af iA rfl) (aa (af fD rfl) (aa (aj bo rfl rfl) (aa (af om rfl) (aa (af fD rfl) (aa (aj bo rfl rfl) (aa (bS rfl rfl) (xc (ao rfl (λl7=>?_) (λl7=>?_))))))))))))
       ·
        (try simp only[nb,Xv]at l7)
        have hw:c9 (decide (a.ou.t≠a.ba.t)) 23=23:=by unfold c9;rw[Xu (X5 l7)]
        rw[hw,Xu (by decide)]at h4;refine ae (xa 2 (aa aA (aa aA (xc (ah ?_)))));refine⟨_,gz,?_⟩;rw[hu,h4];rfl
       ·
        (try simp only[nb,Xv]at l7)
        have hw:c9 (decide (a.ou.t≠a.ba.t)) 23=0:=by unfold c9;rw[Xr (by simpa using l7)]
        rw[hw,Xr (by decide)]at h4;refine wO ?_;change Awp _ _ _ _ _;refine ae (xa 5 (aa (af q9 rfl) (aa (ax (ds:=[_,_]) ab4 rfl rfl rfl) (aa (ak aq2 (.cons rfl .nil) rfl (sA _)) (aa aA (aa aA (xc (ah ?_))))))));refine⟨_,gz,?_⟩;rw[hu,h4];rfl
theorem DD(l:List (Int × Int))(hl:l.length≤1000):PC qP 92 [.sl 2 (l.map shC)] (.sl 2 (l.map shC)):=by
 refine av (qA Tryz.func92 rfl) rfl Tryz.ntmps92 (rs:=[.tmp 2]) Tryz.results92 (by simp) λw0=>?_;refine ae (xa 1 (aa (aG (x:=.d (.sl _ _)) rfl) (rs (xa 4 (aa (B7 xg r9) (aa (aq (x:=.d (.sl _ _)) rfl) ?_))))));refine aa (yq xg r9 aG2 rfl (by decide) rfl rfl rfl (by (try simp only[Xo]);omega) (by (try simp only[Xo]);omega)) (aa (aG (x:=.d (.sl _ _)) rfl) (xc (ah ?_)));refine⟨_,cS,?_⟩;rfl
theorem JI(a:rX)(hl:a.el.length≤1000):PC qP 40 [.agg (rN a)] (.agg (rN a)):=by
 refine av (qA Tryz.func40 rfl) rfl Tryz.ntmps40 (rs:=[.cell 2 28]) Tryz.results40 (by simp) λw0=>?_;refine ae (xa 0 (aw (D6 (X:=.agg (rN a)) rfl (by exact .inr ⟨_,rfl⟩) rfl rfl rfl ?_)));refine aD Xe rfl rfl rfl (ai (xq (xa 4 (aa (aC du rfl) (aa (aQ jP rfl rfl rfl) (aa (ak aD1 (.cons rfl .nil) rfl (DD _ (by omega))) (aa (aC du rfl) (aw (ay jP rfl rfl (by exact .inl rfl) rfl rfl (by exact Nat.le_of_ble_eq_true rfl) rfl (ai (xq (xa 1 (aa (aX (ds:=[_,_,_,_,_,_,_,_,_,_,_]) po rfl rfl rfl rfl) (aw (ay po rfl rfl (by exact .inr ⟨_,rfl⟩) rfl rfl (by decide) rfl (ai ?_))))))))))))))));change Awp _ _ _ _ _;refine ah ?_;refine⟨_,(.cons (.dn rfl rfl po rfl) .nil),?_⟩;rfl
theorem ar4{a:rX}(bg:Ej a){i:Int}(h1:0≤i)(h2:i<a.el.length):(-100000≤(jI a i).1∧(jI a i).1≤100000)∧-100000≤(jI a i).2∧(jI a i).2<0:=
 bg.el _ (XA (Dv h1 h2))
theorem LC{z t:Int}:mX z t=0↔1≤z∧z≤t - 1:=by
 unfold mX;rw[gE (by decide)];simp[dP]
theorem Ko{a:rX}(bg:Ej a){i:Int}(h1:0≤i)(h2:i<a.el.length){t:Int × Int}(hs:iT t=0)(hp:mX t.2 a.ou.t=0){m:Md}(hm:m.t=a.ou.t):ph m (jI a i) t=0:=by
 obtain⟨⟨e1,e2⟩,e3,e4⟩:=ar4 bg h1 h2;have hp2:=LC.1 hp;unfold ph;rw[fe];intro x hx;simp only[Xy,XG,Yn]at hx
 rcases hx with rfl|rfl|rfl|rfl
 ·exact nP.2 (by omega)
 ·exact hs
 ·rw[gE (by decide)];simpa using e4
 ·rw[gE (by decide),hm];simp[dP];omega
def Ka(a:rX)(t p:Int × Int):Rg:=((wW a.ou (jI a p.1) t).1.1+(wW a.ba (jI a p.2) t).1.1,(wW a.ou (jI a p.1) t).1.2+(wW a.ba (jI a p.2) t).1.2)
def aF6(m n:Md)(a t b:Int × Int):List D:=O6 m++O6 n++shC a++shC t++shC b
theorem F5(m n:Md)(a t b:Int × Int)(hm:sY m)(hn:sY n)(tX:ph m a t=0)(tW:ph n b t=0):PC qP 141 [.agg (aF6 m n a t b)] (.da [.agg [.v (.int .i64 ((wW m a t).1.1+(wW n b t).1.1)),.v (.int .i64 ((wW m a t).1.2+(wW n b t).1.2))],.v (.int .i64 (0))]):=by
 have hfe:firstE [gP m,gP n]=0:=fe.2 (by intro x hx;simp only[Xy,XG,Yn]at hx;rcases hx with q|q;(rw[q];exact nV.2 hm);(rw[q];exact nV.2 hn));have eA:=(jY hm tX).1;have eM:=(jY hn tW).1;have ak0:=(jY hm tX).2;have aj9:=(jY hn tW).2;have Vf:=SA hm tX;have SN:=SA hn tW;have li1:=vC ak0;have li2:=vC aj9;obtain⟨a1,a2,a3,a4⟩:=li1;obtain⟨b1,b2,b3,b4⟩:=li2;have f1:(lb m a t).2=0:=by rw[eA]
 have f2:(lb n b t).2=0:=by rw[eM]
 refine aY (qA Tryz.func141 rfl) rfl Tryz.ntmps141 (rs:=[.cell 2 76,.tmp 3]) Tryz.results141 (by simp) λw0 bQ cH iK=>?_;refine ae (xa 1 (aa (aP rfl (by exact .inr ⟨_,rfl⟩)) (aw (aD gv rfl rfl rfl (aN rfl aA (ai (xq (ae (xa 9 (aa (af Df rfl) (aa (ax (ds:=[_,_,_,_]) lh rfl rfl rfl) (aa (ak Ds (.cons rfl .nil) rfl (iM m)) (aa (af De rfl) (aa (ax (ds:=[_,_,_,_]) lh rfl rfl rfl) (aa (ak Ds (.cons rfl .nil) rfl (iM n)) (aa (bu oT EA rfl rfl (by decide) (.cons rfl (by exact .inl rfl) (.cons rfl (by exact .inl rfl) .nil)) ⟨rfl,rfl,rfl,rfl,trivial⟩ rfl (by decide) rfl) (aa (ak NO (.cons rfl .nil) rfl (vc [_,_])) (aa aA (rs (xa 2 (aa aF (aa (bS rfl rfl) (xc (ao rfl (λbV=>?_) (λbV=>?_)))))))))))))))))))))))))
 ·
  exact absurd hfe (Y3 bV)
 ·
  (try simp only[nb,Xv]at bV)
  refine wO ?_;change Awp _ _ _ _ _;refine ae (xa 10 (aa (af Df rfl) (aa (ax (ds:=[_,_,_,_]) lh rfl rfl rfl) (aa (af Nv rfl) (aa (ax (ds:=[_,_]) fM rfl rfl rfl) (aa (af Dd rfl) (aa (ax (ds:=[_,_]) fM rfl rfl rfl) (aa (ak NN (.cons rfl (.cons rfl (.cons rfl .nil))) rfl (Kn m a t hm)) (aa (aq (x:=.d (.da _)) rfl) (aa (au rfl rfl) (aa (au rfl rfl) (aw (aD s7 rfl rfl rfl (ay gh rfl rfl (by exact .inr ⟨_,rfl⟩) rfl rfl (by decide) rfl (aN rfl aA (ai (xq (ae (xa 2 (aa aF (aa (bS rfl rfl) (xc (ao rfl (λeU=>?_) (λeU=>?_))))))))))))))))))))))))
  ·
   exact absurd f1 (Y3 eU)
  ·
   (try simp only[nb,Xv]at eU)
   refine wO ?_;change Awp _ _ _ _ _;refine ae (xa 10 (aa (af De rfl) (aa (ax (ds:=[_,_,_,_]) lh rfl rfl rfl) (aa (af Nu rfl) (aa (ax (ds:=[_,_]) fM rfl rfl rfl) (aa (af Dd rfl) (aa (ax (ds:=[_,_]) fM rfl rfl rfl) (aa (ak NN (.cons rfl (.cons rfl (.cons rfl .nil))) rfl (Kn n b t hn)) (aa (aq (x:=.d (.da _)) rfl) (aa (au rfl rfl) (aa (au rfl rfl) (aw (aD s7 rfl rfl rfl (ay gh rfl rfl (by exact .inr ⟨_,rfl⟩) rfl rfl (by decide) rfl (aN rfl aA (ai (xq (ae (xa 2 (aa aF (aa (bS rfl rfl) (xc (ao rfl (λoM=>?_) (λoM=>?_))))))))))))))))))))))))
   ·
    exact absurd f2 (Y3 oM)
   ·
    (try simp only[nb,Xv]at oM)
    refine wO ?_;change Awp _ _ _ _ _;refine ae (xa 5 (aa (aX (ds:=[_,_,_,_,_,_]) gh rfl rfl rfl rfl) (aa (ak NM (.cons rfl .nil) rfl (Af (lb m a t).1 ak0)) (aa (aX (ds:=[_,_,_,_,_,_]) gh rfl rfl rfl rfl) (aa (ak NM (.cons rfl .nil) rfl (Af (lb n b t).1 aj9)) (aa (ak Tl (.cons rfl (.cons rfl .nil)) rfl (LB (jy (lb m a t).1) (jy (lb n b t).1) (by omega) (by omega) (by omega) (by omega) (by omega) (by omega) (by omega) (by omega))) (aw (ay dM rfl rfl (by exact .inr ⟨_,rfl⟩) rfl rfl (by decide) rfl (aN rfl aA (ai ?_))))))))));change Awp _ _ _ _ _;refine ah ?_;refine⟨_,(.cons (.dn rfl rfl dM rfl) cS),?_⟩;rw[Vf,SN];rfl
def Rs(a:rX)(t p:Int × Int):Rg × Int:=if Ch a t p≠0 then ((0,0),Ch a t p) else (Ka a t p,0)
theorem Dw(a:rX)(t p:Int × Int):PC qP 112 [.agg (rN a),.agg (shC t),.agg (shC p)] (.da [.agg [.v (.int .i64 (((Rs a t p).1).1)),.v (.int .i64 (((Rs a t p).1).2))],.v (.int .i64 ((Rs a t p).2))]):=by
 refine aY (qA Tryz.func112 rfl) rfl Tryz.ntmps112 (rs:=[.cell 6 76,.tmp 7]) Tryz.results112 (by simp) λw0 bQ cH iK=>?_;refine ae (xa 3 (aa (aP rfl (by exact .inr ⟨_,rfl⟩)) (aa (aP rfl (by exact .inr ⟨_,rfl⟩)) (aa (aP rfl (by exact .inr ⟨_,rfl⟩)) (aw (aD gv rfl rfl rfl (aN rfl aA (ai (xq (ae (xa 7 (aa (ax (ds:=[_,_,_,_,_,_,_,_,_,_,_]) po rfl rfl rfl) (aa (ax (ds:=[_,_]) fM rfl rfl rfl) (aa (ax (ds:=[_,_]) oQ rfl rfl rfl) (aa (ak Tq (.cons rfl (.cons rfl (.cons rfl .nil))) rfl (Ic _ _ _)) (aa (aq (x:=.d (.da _)) rfl) (aa (au rfl rfl) (aa (au rfl rfl) (aw (aD Bs rfl rfl rfl (ay mJ rfl rfl (by exact .inr ⟨_,rfl⟩) rfl rfl (by decide) rfl (aN rfl aA (ai (xq (xa 2 (aa aF (aa (bS rfl rfl) (xc (ao rfl (λbV=>?_) (λbV=>?_))))))))))))))))))))))))))))))
 ·
  (try simp only[nb,Xv]at bV)
  have hz:Rs a t p=((0,0),Ch a t p):=by unfold Rs;rw[Xu bV]
  refine ae (xa 2 (aa (bz (cs:=[_,_]) qm gv rfl .nil trivial rfl) (aa aF (aw (ay dM rfl rfl (by exact .inr ⟨_,rfl⟩) rfl rfl (by decide) rfl (aN rfl aA (ai ?_)))))));change Awp _ _ _ _ _;refine ah ?_;refine⟨_,(.cons (.dn rfl rfl dM rfl) cS),?_⟩;rw[hz];rfl
 ·
  (try simp only[nb,Xv]at bV)
  have ho:Ch a t p=0:=by simpa using bV
  obtain⟨bg,uC,hs,hp⟩:=Su ho;have hz:Rs a t p=(Ka a t p,0):=by unfold Rs;rw[Xr (by rw[ho];simp)]
  obtain⟨⟨p1,p2⟩,p3,p4⟩:=uC;have hx:=Dv p1 p2;have hy:=Dv p3 p4;have tX:=Ko bg p1 p2 hs hp (m:=a.ou) rfl;have tW:=Ko bg p3 p4 hs hp (m:=a.ba) bg.th.symm;have e1:((p.1.toNat:Nat):Int)=p.1:=by omega
  have e2:((p.2.toNat:Nat):Int)=p.2:=by omega
  refine wO ?_;change Awp _ _ _ _ _;refine ae (xa 21 (aa (af iA rfl) (aa (ax (ds:=[_,_,_,_]) lh rfl rfl rfl) (aa (af om rfl) (aa (ax (ds:=[_,_,_,_]) lh rfl rfl rfl) (aa (af du rfl) (aa (aj jP rfl rfl) (aa (cj kF rfl rfl (by omega) (by omega)) (aa (aj bo rfl rfl) (aa (aJ xg rfl rfl (by omega) (cm (k:=p.1.toNat) (by omega) hx)) (aa (ax (ds:=[_,_]) fM rfl rfl rfl) (aa (ax (ds:=[_,_]) fM rfl rfl rfl) (aa (af du rfl) (aa (aj jP rfl rfl) (aa (cj kF rfl rfl (by omega) (by omega)) (aa (aj bo rfl rfl) (aa (aJ xg rfl rfl (by omega) (cm (k:=p.2.toNat) (by omega) hy)) (aa (ax (ds:=[_,_]) fM rfl rfl rfl) ?_))))))))))))))))));refine aa (bz ae4 Xi rfl (.cons rfl (by exact .inr ⟨_,rfl⟩) (.cons rfl (by exact .inr ⟨_,rfl⟩) (.cons rfl (by exact .inr ⟨_,rfl⟩) (.cons rfl (by exact .inr ⟨_,rfl⟩) (.cons rfl (by exact .inr ⟨_,rfl⟩) .nil))))) ⟨⟨rfl,by decide⟩,⟨rfl,by decide⟩,⟨rfl,by decide⟩,⟨rfl,by decide⟩,⟨rfl,by decide⟩,trivial⟩ rfl) (aa (ak ap4 (.cons rfl .nil) rfl (F5 a.ou a.ba (jI a p.1) t (jI a p.2) bg.ou bg.ba tX tW)) (aa (au rfl rfl) (aa (au rfl rfl) (aw (ay dM rfl rfl (by exact .inr ⟨_,rfl⟩) rfl rfl (by decide) rfl (aN rfl aA (ai ?_)))))));change Awp _ _ _ _ _;refine ah ?_;refine⟨_,(.cons (.dn rfl rfl dM rfl) cS),?_⟩;rw[hz];rfl
theorem BA(n m:Int)(h1:0≤m)(h2:m≤1000000000000):PC qP 45 [.v (.int .i64 (n)),.v (.int .i64 (m))] (.v (.bool (dP (-m) n m))):=by
 refine av (qA Tryz.func45 rfl) rfl Tryz.ntmps45 (rs:=[.tmp 4]) Tryz.results45 (by simp) λw0=>?_;refine ae (xa 1 (aa aA (rs (xa 6 (aa aF (aa aF ?_))))));refine aa (tw rfl xi) (aa aF (aa (ak NK (.cons rfl (.cons rfl (.cons rfl .nil))) rfl (ld _ _ _)) (aa aA (xc (ah ?_)))));refine⟨_,cS,?_⟩;rfl
structure Wm(b:Nat)(n:Int):Prop where
 lo : -2047≤n
 hi:n≤2047
 self:ordB .neq (FloatKind.f32.format.order b b)=false
 sub:floatBits .sub .f32 b b=some 0
 ge:ordB .geq (FloatKind.f32.format.order b 1266679808)=false
 le:ordB .leq (FloatKind.f32.format.order b 3414163456)=false
 int:floatToIntVal .f32 b .i64=some n
 back:ordB .neq (FloatKind.f32.format.order (FloatKind.f32.nearest n) b)=false
def vI(b:Nat):Int:=(floatToIntVal .f32 b .i64).getD 0
theorem Wm.v{b:Nat}{n:Int}(h:Wm b n):vI b=n:=by unfold vI;rw[h.int];rfl
theorem TQ{n:Int}(h1 : -2047≤n)(h2:n≤2047):Wm (FloatKind.f32.nearest n) n:=by
 have hf:=wH (show -16777215≤n by omega) (by omega);refine⟨h1,h2,AP hf,?_,Rp hf,Ro hf,AQ hf,AP hf⟩;have h:=Rl hf hf (by rw[ZY];exact wH (by decide) (by decide));rw[ZY]at h;exact h
theorem Bw:ordB .neq (FloatKind.f32.format.order 0 0)=false:=AP (a:=0) (wH (by decide) (by decide))
def ud(bs:List Nat):Prop:=∀b∈bs,Wm b (vI b)
theorem zo(b:Nat)(n:Int)(h:Wm b n):PC qP 151 [fd b] (.v (.int .i64 (0))):=by
 have h1:=h.lo;have h2:=h.hi;have hr:dP (-2047) n 2047=true:=by simp[dP];omega
 refine av (qA Tryz.func151 rfl) rfl Tryz.ntmps151 (rs:=[.tmp 2]) Tryz.results151 (by simp) λw0=>?_;refine ae (xa 1 (aa aA (rs (az (ae (xa 10 (aa aF (aa aF (aa (e9 (by decide) rfl rfl h.self) (aa aF (aE rfl rfl (λhG=>aF) (aE rfl rfl (λhG=>aF) (aE rfl rfl (λhG=>(Ff (by decide) rfl rfl h.sub)) (aE rfl rfl (λhG=>(e9 (by decide) rfl rfl Bw)) (aT rfl rfl rfl rfl rfl rfl ?_)))))))))))))));refine aa aA (xc (ao rfl (λbW=>?_) (λbW=>?_)))
 ·
  cases bW
 ·
  (try simp only[nb,Xv]at bW)
  refine ae (xa 7 (aa aF (aa (e9 (by decide) rfl rfl h.ge) (aa aF (aE rfl rfl (λhG=>aF) (aE rfl rfl (λhG=>(e9 (by decide) rfl rfl h.le)) (aT rfl rfl rfl rfl rfl rfl ?_)))))));refine aa aA (xc (ao rfl (λdB=>?_) (λdB=>?_)))
  ·
   cases dB
  ·
   (try simp only[nb,Xv]at dB)
   refine ae (xa 6 (aa aF (aa (iH ik l4 rfl h.int) (aa (lW l4 ik rfl) (aa aF (aa (e9 (by decide) rfl rfl h.back) (aa aA (xc (ao rfl (λeU=>?_) (λeU=>?_))))))))))
   ·
    cases eU
   ·
    (try simp only[nb,Xv]at eU)
    refine ae (xa 5 (aa aF (aa (iH ik l4 rfl h.int) (aa (ak an0 (.cons rfl (.cons rfl .nil)) rfl (BA _ _ (by omega) (by omega))) (aa (bX rfl) (aa aA (xc (ao rfl (λmo=>?_) (λmo=>?_)))))))))
    ·
     rw[show dP (-2047) n 2047=true from hr]at mo
     cases mo
    ·
     (try simp only[nb,Xv]at mo)
     refine wO ?_;change Awp _ _ _ _ _;refine ae (xa 1 (aa aA (xc (ah ?_))));refine⟨_,cS,?_⟩;rfl
theorem oP(l:List Nat)(hb:ud l):PC qP 129 [.sl 1 (l.map fC)] (.da [.v (.int .i64 (0)),.v (.int .i64 (0))]):=by
 refine av (qA Tryz.func129 rfl) rfl Tryz.ntmps129 (rs:=[.tmp 2,.tmp 3]) Tryz.results129 (by simp) λw0=>?_;refine ae (xa 2 (aa aA (aa aA (rs (ae (xa 3 (aa (aq (x:=.d (.sl _ _)) rfl) (aa (cd qD rfl (by exact aV _ _)) (aa aF (xc (bm (t:=7) rfl (λMX=>?_))))))))))))
 (try simp only[Xo]at MX)
 refine az (bG [2,3,4,5,6,9,10,11,12,13,14,15,16,17,18,19,20] [] (α:=Nat) (λk=>[(9,T.i (k:Int))]) (λk=>[]) (λk=>k≤l.length) (λk=>l.length - k) 0 (XC _) ?_ ?_)
 ·exact xh (ms:=[]) (by repeat (exact Out.refl _)) ⟨(by rfl),trivial⟩ trivial
 ·
  intro k hk;refine ae (xa 1 (aa (cM rfl rfl) (rs (ao rfl (λbV=>?_) (λbV=>?_)))))
  ·
   (try simp only[nb,Xv]at bV)
   have bH:k<l.length:=by omega
   obtain⟨x,hx⟩:∃x,l[k]?=some x:=⟨_,Xp bH⟩
   have hx1:=hb x (XA hx);refine wO ?_;change Awp _ _ _ _ _;refine ae (az (ae (xa 5 (aa aF (aa (aJ xf rfl rfl (by omega) (cm (by omega) hx)) (aa (aj xV rfl rfl) (aa aA (aa aA (rs (xa 3 (aa aF (aa (ak Tn (.cons rfl .nil) rfl (zo _ _ (by assumption))) (aa aA (rs (xa 2 (aa aF (aa (bS rfl rfl) (xc (ao rfl (λeU=>?_) (λeU=>?_))))))))))))))))))))
   ·
    simp at eU
   ·
    (try simp only[nb,Xv]at eU)
    refine wO ?_;change Awp _ _ _ _ _;refine xa 2 ?_;refine aa (bC rfl rfl xi) (aa aF (rn ?_));refine⟨k+1,by omega,by omega,?_⟩;exact xh (ms:=[]) (by repeat (first|exact Out.head rfl rfl|(refine Out.put ?_ rfl))) ⟨(by rfl),trivial⟩ trivial
  ·
   (try simp only[nb,Xv]at bV)
   refine bJ ?_;change Awp _ _ _ _ _;refine ae (xa 2 (aa aA (aa aA (xc (ah ?_)))));refine⟨_,gz,?_⟩;rfl
theorem w8(l:List Nat)(hS:l.length=64)(hb:ud l):PC qP 147 [.agg (l.map fd)] (.da [.v (.int .i64 (0)),.v (.int .i64 (0))]):=by
 refine av (qA Tryz.func147 rfl) rfl Tryz.ntmps147 (rs:=[.tmp 2,.tmp 3]) Tryz.results147 (by simp) λw0=>?_;refine ae (xa 3 (aa (aP rfl (by exact .inr ⟨_,rfl⟩)) (aa aA (aa aA (rs (xa 6 ?_))))));refine aa (Ll (es:=l.map fC) OB rfl (by show (l.map fd).length=64;rw[Xo];exact hS) (by decide) (by decide) (Ny l)) (aa (ak NQ (.cons rfl .nil) rfl (oP l hb)) (aa (au rfl rfl) (aa (au rfl rfl) (aa aA (aa aA (xc (ah ?_)))))));refine⟨_,gz,?_⟩;rfl
theorem EJ(l:List Nat)(hS:l.length=64)(hb:ud l):PC qP 117 [.agg (l.map fd)] (.v (.int .i64 (0))):=by
 refine av (qA Tryz.func117 rfl) rfl Tryz.ntmps117 (rs:=[.tmp 2]) Tryz.results117 (by simp) λw0=>?_;refine ae (xa 2 (aa (aP rfl (by exact .inr ⟨_,rfl⟩)) (aa aA (rs (xa 7 ?_)))));refine aa (ax (ds:=l.map fd) KD rfl (by rw[Z1];exact Yo (by show (l.map fd).length≤64;rw[Xo];omega)) (by rw[Xo];exact hS)) (aa (ak ap2 (.cons rfl .nil) rfl (w8 _ (by assumption) (by assumption))) (aa (aq (x:=.d (.da _)) rfl) (aa (au rfl rfl) (aa (au rfl rfl) (aa aA (aa aA (rs (xa 2 (aa aF (aa aA (xc (ah ?_))))))))))));refine⟨_,cS,?_⟩;rfl
theorem xM(ne:Int)(l:List Nat)(h1:1≤ne)(h2:ne≤16)(hl:(l.length:Int)=ne*ne*64)(hb:ud l):PC qP 97 [.agg [.v (.int .i64 (ne)),.sl 1 (l.map fC)]] (.da [.v (.int .i64 (0)),.v (.int .i64 (0))]):=by
 have hm:=lX (a:=ne) (b:=ne) (A:=16) (B:=16) (by omega) (by omega) (by omega) (by omega);refine av (qA Tryz.func97 rfl) rfl Tryz.ntmps97 (rs:=[.tmp 2,.tmp 3]) Tryz.results97 (by simp) λw0=>?_;refine ae (xa 3 (aa (aP rfl (by exact .inr ⟨_,rfl⟩)) (aa aA (aa aA (rs (az (ae (xa 5 (aa (af fB rfl) (aa (aj bo rfl rfl) (aa (ak NK (.cons rfl (.cons rfl (.cons rfl .nil))) rfl (ld _ _ _)) (aa (bX rfl) (aa aA (xc (ao rfl (λbW=>?_) (λbW=>?_))))))))))))))))
 ·
  simp[dP]at bW;omega
 ·
  (try simp only[nb,Xv]at bW)
  refine ae (xa 11 (aa (af fU rfl) (aa (aj oF rfl rfl) (aa (cd qD rfl (by exact aV _ _)) (aa (af fB rfl) (aa (aj bo rfl rfl) (aa (af fB rfl) (aa (aj bo rfl rfl) ?_))))))));refine aa (cZ rfl rfl xi) ?_;refine aa (cZ rfl rfl xi) (aa (bS rfl rfl) (aa aA (xc (bm (t:=11) rfl (λVe=>?_)))))
  (try simp only[Xo]at Ve)
  refine ao rfl (λdB=>?_) (λdB=>?_)
  ·
   rw[XW]at dB;exact absurd hl dB
  ·
   (try simp only[nb,Xv]at dB)
   refine wO ?_;change Awp _ _ _ _ _;refine ae (xa 7 (aa (af fU rfl) (aa (aj oF rfl rfl) (aa (ak NQ (.cons rfl .nil) rfl (oP l hb)) (aa (au rfl rfl) (aa (au rfl rfl) (aa aA (aa aA (xc (ah ?_))))))))));refine⟨_,gz,?_⟩;rfl
def zV(S:List Int)(k:Nat):List D:=(S.take k).map iv++List.replicate (64 - k) (iv 0)
theorem Cc{S:List Int}{k:Nat}(hS:S.length=64)(hk:k≤64):(zV S k).length=64:=by unfold zV;rw[XI,Xo,Ya,List.length_replicate];omega
theorem LK{S:List Int}{k:Nat}{x:Int}(hS:S.length=64)(h:S[k]?=some x):dL (zV S k) (0+(k:Int).toNat*1) [iv x]=zV S (k+1):=by
 obtain⟨bH,hx⟩:=Xt.1 h;have hl:((S.take k).map iv).length=k:=by rw[Xo,Ya];omega
 rw[ZO,XK,YA,ye (by rw[Cc hS (by omega)];omega)];unfold zV;rw[List.set_append_right _ _ (by omega),hl,Nat.sub_self,show 64 - k=(64 - (k+1))+1 by omega,List.replicate_succ,List.set_cons_zero,Yh bH,hx,Yw,Yr];rfl
theorem LL{S:List Int}(hS:S.length=64):zV S 64=S.map iv:=by
 unfold zV;rw[Yo (by omega)];simp
theorem ak7{l:List Nat}{k:Nat}{x:Nat}(h:l[k]?=some x):(l.map fd)[0+(k:Int).toNat*1]?=some (fd x):=by rw[ZO,XK,YA,XF,h];rfl
theorem sa{l:List Nat}(h:l.length=64):((l.map vI).map iv).length=64:=by rw[Xo,Xo];exact h
theorem aa4{l:List Nat}{k x:Nat}(h:l[k]?=some x):(l.map vI)[k]?=some (vI x):=by rw[XF,h];rfl
theorem R6{l:List Nat}(h:ud l):∀v∈l.map vI,-2047≤v∧v≤2047:=by
 intro v hv;obtain⟨b,hb,rfl⟩:=X6.1 hv;exact⟨(h b hb).lo,(h b hb).hi⟩
theorem Cj(l:List Nat)(hS:l.length=64)(hb:ud l):PC qP 118 [.pt (l.map fd) 0] (.agg ((l.map vI).map iv)):=by
 have hS2:(l.map vI).length=64:=by rw[Xo];exact hS
 refine av (qA Tryz.func118 rfl) rfl Tryz.ntmps118 (rs:=[.cell 2 210]) Tryz.results118 (by simp) λw0=>?_;refine ae (xa 0 (aw (aD RY rfl rfl rfl (ai (xq (ae (xa 2 (aa (aq (x:=.d (.pt _ _)) rfl) (aa aF (xc (az (bG [3,4,6,7,8,9,10,11,12,13,14,15,16] [2] (α:=Nat) (λk=>[(6,T.i (k:Int))]) (λk=>[(2,.box (zV (l.map vI) k))]) (λk=>k≤64) (λk=>64 - k) 0 (XC _) ?_ ?_))))))))))))
 ·exact xh (ms:=[2]) (by repeat (exact Out.refl _)) ⟨(by rfl),trivial⟩ ⟨(by rfl),trivial⟩
 ·
  intro k hk;refine ae (xa 1 (aa (cM rfl rfl) (rs (ao rfl (λbV=>?_) (λbV=>?_)))))
  ·
   (try simp only[nb,Xv]at bV)
   have bH:k<l.length:=by omega
   obtain⟨x,hx⟩:∃x,l[k]?=some x:=⟨_,Xp bH⟩
   have hx1:=hb x (XA hx);have U8:=ak7 hx;have dU:=LK hS2 (aa4 hx);have hol:=Cc (k:=k) hS2 (by omega);refine wO ?_;change Awp _ _ _ _ _;refine ae (az (ae (xa 6 (aa aF (aa (bZ rfl) (aa (cj OB rfl rfl (by omega) (by omega)) (aa (aj xV rfl U8) (aa aA (aa aA (rn ?_))))))))));change Awp _ _ _ _ _;refine xa 4 (aa aF (aa aF (aa (iH ik l4 rfl hx1.int) (aa (bA TC rfl rfl (by omega) (by omega)) (aw (ay (cs':=zV (l.map vI) (k+1)) bo rfl rfl (by exact .inl rfl) rfl rfl (by rw[hol];omega) dU (ai ?_)))))));change Awp _ _ _ _ _;refine xa 2 ?_;refine aa (bC rfl rfl xi) (aa aF (rn ?_));refine⟨k+1,by omega,by omega,?_⟩;exact xh (ms:=[2]) (by repeat (first|exact Out.head rfl rfl|(refine Out.put ?_ rfl)|(refine Out.site ?_ rfl))) ⟨(by rfl),trivial⟩ ⟨(by rfl),trivial⟩
  ·
   (try simp only[nb,Xv]at bV)
   have aA7:k=64:=by omega
   subst aA7;rw[LL hS2];refine bJ ?_;change Awp _ _ _ _ _;refine ae (xa 1 ?_);refine aa (aX (ds:=(l.map vI).map iv) GV rfl rfl (by rw[Z1];exact Yo (by rw[sa hS];exact Xw _)) (sa hS)) (aw (ay (cs':=(l.map vI).map iv) GV rfl rfl (by exact .inr ⟨_,rfl⟩) (sa hS) rfl (by rw[sa hS];decide) (yf (by rfl)) (ai ?_)));change Awp _ _ _ _ _;refine ah ?_;refine⟨_,(.cons (.dn rfl rfl GV (sa hS)) .nil),?_⟩;rfl
def xl(S:List Int)(k:Nat):Int:=S.getD k 0
def Bc(S:List Int)(k:Nat):Int:=xl S k - xl S (k+2)
def Bg(S:List Int)(k:Nat):Int:=xl S (k+1) - xl S (k+3)
theorem at6{S:List Int}(hS:S.length=64){k:Nat}(hk:k<61):((((S.map iv).take (k+4)).drop k).map λd=>[d])=[iv (xl S k),iv (xl S (k+1)),iv (xl S (k+2)),iv (xl S (k+3))].map λd=>[d]:=by
 congr 1
 have hg:∀i,i<64->S[i]?=some (xl S i):=λi hi=>by
  unfold xl;rw[X1,Xp (by omega)];rfl
 apply List.ext_getElem?;intro i;rw[Yk,Yq,XF]
 match i with
 | 0=>rw[Xu (by omega),hg _ (by omega)];rfl
 | 1=>rw[Xu (by omega),hg _ (by omega)];rfl
 | 2=>rw[Xu (by omega),hg _ (by omega)];rfl
 | 3=>rw[Xu (by omega),hg _ (by omega)];rfl
 | i+4=>rw[Xr (by omega)];rfl
theorem mQ{S:List Int}(hb:∀v∈S,-2047≤v∧v≤2047)(k:Nat) : -2047≤xl S k∧xl S k≤2047:=by
 unfold xl;rw[X1]
 cases h:S[k]? with
 | none=>exact⟨by decide,by decide⟩
 | some v=>exact hb v (XA h)
theorem Kw(S:List Int)(hS:S.length=64)(hb:∀v∈S,-2047≤v∧v≤2047)(k:Nat)(hk:k<61):PC qP 119 [.pt (S.map iv) 0,.v (.int .i64 ((k:Int)))] (.da [.v (.int .i64 (Bc S k)),.v (.int .i64 (Bg S k))]):=by
 have b0:=mQ hb k;have b1:=mQ hb (k+1);have b2:=mQ hb (k+2);have b3:=mQ hb (k+3);have WU:(S.map iv).length=64:=by rw[Xo];exact hS
 refine aY (qA Tryz.func119 rfl) rfl Tryz.ntmps119 (rs:=[.tmp 4,.tmp 5]) Tryz.results119 (by simp) λw0 bQ cH iK=>?_;refine ae (xa 2 (aa aA (aa aA (rs (xa 8 (aa (aq (x:=.d (.pt _ _)) rfl) (aa (bZ rfl) (aa aF (aa aF ?_)))))))));refine aa (bC rfl rfl xi) (aa (IY (lo:=k) (hi:=k+4) (es:=[iv (xl S k),iv (xl S (k+1)),iv (xl S (k+2)),iv (xl S (k+3))].map λd=>[d]) TC rfl WU (by decide) rfl rfl (by omega) (by omega) (by omega) (at6 hS hk)) (aa (Hh (cs:=[iv (xl S k),iv (xl S (k+1)),iv (xl S (k+2)),iv (xl S (k+3))]) D4 rfl rfl rfl (by decide)) (aa (ax (ds:=[_,_,_,_]) Sa rfl rfl rfl) (aw (aD Xg rfl rfl rfl (ay Sa rfl rfl (by exact .inr ⟨_,rfl⟩) rfl rfl (by decide) rfl (ai (xq (xa 12 (aa (bA D4 rfl rfl (by omega) (by omega)) (aa (aQ bo rfl rfl rfl) (aa (bA D4 rfl rfl (by omega) (by omega)) (aa (aQ bo rfl rfl rfl) ?_)))))))))))));refine aa (dk rfl rfl xi) (aa (bA D4 rfl rfl (by omega) (by omega)) (aa (aQ bo rfl rfl rfl) (aa (bA D4 rfl rfl (by omega) (by omega)) (aa (aQ bo rfl rfl rfl) ?_))));refine aa (dk rfl rfl xi) (aa aA (aa aA (xc (ah ?_))));refine⟨_,gz,?_⟩;rfl
theorem Ud{S:List Int}(hb:∀v∈S,-2047≤v∧v≤2047)(k:Nat):(-4094≤Bc S k∧Bc S k≤4094)∧(-4094≤Bg S k∧Bg S k≤4094):=by
 have b0:=mQ hb k;have b1:=mQ hb (k+1);have b2:=mQ hb (k+2);have b3:=mQ hb (k+3);unfold Bc Bg;omega
def cx(re im:Int):D:=.v (.complex .f32 (FloatKind.f32.nearest re) (FloatKind.f32.nearest im))
def D7(S:List Int):List D:=(List.range 61).map λk=>cx (Bc S k) (Bg S k)
def zW(S:List Int)(k:Nat):List D:=((List.range k).map λk=>cx (Bc S k) (Bg S k))++List.replicate (61 - k) (.v (.complex .f32 0 0))
theorem Cd{S:List Int}{k:Nat}(hk:k≤61):(zW S k).length=61:=by unfold zW;rw[XI,Xo,Yx,List.length_replicate];omega
theorem LM{S:List Int}{k:Nat}(hk:k<61):dL (zW S k) (0+(k:Int).toNat*1) [cx (Bc S k) (Bg S k)]=zW S (k+1):=by
 have hl:((List.range k).map λk=>cx (Bc S k) (Bg S k)).length=k:=by rw[Xo,Yx]
 rw[ZO,XK,YA,ye (by rw[Cd (by omega)];omega)];unfold zW;rw[List.set_append_right _ _ (by omega),hl,Nat.sub_self,show 61 - k=(61 - (k+1))+1 by omega,List.replicate_succ,List.set_cons_zero,ZA,Yw,Yr];rfl
theorem LN(S:List Int):zW S 61=D7 S:=by unfold zW D7;simp
theorem oC(S:List Int):(D7 S).length=61:=by unfold D7;rw[Xo,Yx]
theorem Gv(l:List Nat)(hS:l.length=64)(hb:ud l):PC qP 73 [.agg (l.map fd)] (.da [.agg (D7 (l.map vI)),.v (.int .i64 (0))]):=by
 have WU:=sa hS;have hS2:(l.map vI).length=64:=by rw[Xo];exact hS
 have Rc:=R6 hb;refine aY (qA Tryz.func73 rfl) rfl Tryz.ntmps73 (rs:=[.cell 2 161,.tmp 3]) Tryz.results73 (by simp) λw0 bQ cH iK=>?_;refine ae (xa 1 (aa (aP rfl (by exact .inr ⟨_,rfl⟩)) (aw (aD Ki rfl rfl rfl (aN rfl aA (ai (xq (xa 0 (aw (aD Ki rfl rfl rfl (ai (xq (ae (xa 3 ?_))))))))))))));refine aa (ax (ds:=l.map fd) KD rfl (by rw[Z1];exact Yo (by show (l.map fd).length≤64;rw[Xo];omega)) (by rw[Xo];exact hS)) (aa (ak aq6 (.cons rfl .nil) rfl (EJ _ (by assumption) (by assumption))) (aa aA (rs (xa 2 (aa aF (aa (bS rfl rfl) (xc (ao rfl (λdB=>?_) (λdB=>?_)))))))))
 ·
  simp at dB
 ·
  (try simp only[nb,Xv]at dB)
  refine wO ?_;change Awp _ _ _ _ _;refine ae (xa 1 (aa (ak aq5 (.cons rfl .nil) rfl (Cj l hS hb)) (aw (dF RY rfl GV rfl rfl (by exact .inr ⟨_,rfl⟩) WU rfl (ai (xq (ae (xa 1 (aa aF (xc (az (bG [7,8,9,17,18,19,20,21,22,23,24,25,26,27,28,29,30,31,32] [4] (α:=Nat) (λk=>[(17,T.i (k:Int))]) (λk=>[(4,.box (zW (l.map vI) k))]) (λk=>k≤61) (λk=>61 - k) 0 (XC _) ?_ ?_))))))))))))
  ·exact xh (ms:=[4]) (by repeat (exact Out.refl _)) ⟨(by rfl),trivial⟩ ⟨(by rfl),trivial⟩
  ·
   intro k hk;refine ae (xa 1 (aa (cM rfl rfl) (rs (ao rfl (λmo=>?_) (λmo=>?_)))))
   ·
    (try simp only[nb,Xv]at mo)
    have bH:k<61:=by omega
    have dU:=LM (S:=l.map vI) bH;have hol:=Cd (S:=l.map vI) (k:=k) (by omega);refine wO ?_;change Awp _ _ _ _ _;refine ae (az (ae (xa 2 (aa aF (aa aA (rs (xa 7 (aa aF (aa (ak aq4 (.cons rfl (.cons rfl .nil)) rfl (Kw (l.map vI) hS2 Rc k bH)) (aa (aq (x:=.d (.da _)) rfl) (aa (au rfl rfl) (aa (au rfl rfl) (aa aA (aa aA (rn ?_)))))))))))))));change Awp _ _ _ _ _;refine xa 7 (aa aF (aa aF (aa (lW l4 ik rfl) (aa aF (aa (lW l4 ik rfl) (aa (yp rfl rfl) (aa (bA as5 rfl rfl (by omega) (by omega)) (aw (ay (cs':=zW (l.map vI) (k+1)) KE rfl rfl (by exact .inl rfl) rfl rfl (by rw[hol];omega) dU (ai ?_))))))))));change Awp _ _ _ _ _;refine xa 2 ?_;refine aa (bC rfl rfl xi) (aa aF (rn ?_));refine⟨k+1,by omega,by omega,?_⟩;exact xh (ms:=[4]) (by repeat (first|exact Out.head rfl rfl|(refine Out.put ?_ rfl)|(refine Out.site ?_ rfl))) ⟨(by rfl),trivial⟩ ⟨(by rfl),trivial⟩
   ·
    (try simp only[nb,Xv]at mo)
    have aA8:k=61:=by omega
    subst aA8;rw[LN];refine bJ ?_;change Awp _ _ _ _ _;refine ae (xa 1 ?_);refine aa (aX (ds:=D7 (l.map vI)) BE rfl rfl (by rw[Z1];exact Yo (by rw[oC];exact Xw _)) (oC _)) (aw (ay (cs':=D7 (l.map vI)) BE rfl rfl (by exact .inr ⟨_,rfl⟩) (oC _) rfl (Nat.le_of_ble_eq_true rfl) (yf (oC _)) (aN rfl aA (ai ?_))));change Awp _ _ _ _ _;refine ah ?_;refine⟨_,(.cons (.dn rfl rfl BE (oC _)) cS),?_⟩;rfl
theorem dA(n lo hi:Int):PC qP 68 [.v (.int .i64 (n)),.v (.int .i64 (lo)),.v (.int .i64 (hi))] (.v (.bool (dP lo n hi))):=by
 refine av (qA Tryz.func68 rfl) rfl Tryz.ntmps68 (rs:=[.tmp 6]) Tryz.results68 (by simp) λw0=>?_;refine ae (xa 1 (aa aA (rs (xa 9 (aa aF (aa aF (aa (iG rfl rfl) (aa aF (aE rfl rfl (λhG=>aF) (aE rfl rfl (λhG=>aF) (aE rfl rfl (λhG=>(iG rfl rfl)) (aT rfl rfl rfl rfl rfl rfl ?_))))))))))));refine aa aA (xc (ah ?_));refine⟨_,cS,?_⟩;simp only[gX];rfl
theorem C8(n m:Int)(h1:0≤m)(h2:m≤1000000000000):PC qP 133 [.v (.int .i64 (n)),.v (.int .i64 (m))] (.v (.bool (dP (-m) n m))):=by
 refine av (qA Tryz.func133 rfl) rfl Tryz.ntmps133 (rs:=[.tmp 4]) Tryz.results133 (by simp) λw0=>?_;refine ae (xa 1 (aa aA (rs (xa 6 (aa aF (aa aF ?_))))));refine aa (tw rfl xi) (aa aF (aa (ak pO (.cons rfl (.cons rfl (.cons rfl .nil))) rfl (dA _ _ _)) (aa aA (xc (ah ?_)))));refine⟨_,cS,?_⟩;rfl
theorem Nw(l:List Int):PC qP 136 [.sl 1 (l.map iC)] (.v (.int .i64 (firstE l))):=by
 refine av (qA Tryz.func136 rfl) rfl Tryz.ntmps136 (rs:=[.tmp 2]) Tryz.results136 (by simp) λw0=>?_;refine ae (xa 1 (aa aA (rs (ae (xa 3 (aa (aq (x:=.d (.sl _ _)) rfl) (aa (cd FK rfl (by exact aV _ _)) (aa aF (xc (bm (t:=5) rfl (λQ1=>?_)))))))))))
 (try simp only[Xo]at Q1)
 refine az (bG [2,4,7,8,9,10,11,12,13,14] [] (α:=Nat) (λk=>[(7,T.i (k:Int))]) (λk=>[]) (λk=>k≤l.length∧firstE l=firstE (l.drop k)) (λk=>l.length - k) 0 ⟨XC _,rfl⟩ ?_ ?_)
 ·exact xh (ms:=[]) (by repeat (exact Out.refl _)) ⟨(by rfl),trivial⟩ trivial
 ·
  intro k ⟨hk,hf⟩;refine ae (xa 1 (aa (cM rfl rfl) (rs (ao rfl (λbV=>?_) (λbV=>?_)))))
  ·
   (try simp only[nb,Xv]at bV)
   have bH:k<l.length:=by omega
   have hx:=Xp bH;have hd:firstE (l.drop k)=if l[k]=0 then firstE (l.drop (k+1)) else l[k]:=by rw[Yf bH];rfl
   generalize l[k]=x at *;refine wO ?_;change Awp _ _ _ _ _;refine ae (az (ae (xa 3 (aa (aJ oT rfl rfl (by omega) (cm (by omega) hx)) (aa (aj TY rfl rfl) (aa aA (rs (xa 2 (aa aF (aa (bS rfl rfl) (xc (ao rfl (λeJ=>?_) (λeJ=>?_)))))))))))))
   ·
    (try simp only[nb,Xv]at eJ)
    refine ae (xa 2 (aa aF (aa aA (xc (ah ?_)))));refine⟨_,cS,?_⟩;rw[hf,hd,Xr eJ];rfl
   ·
    (try simp only[nb,Xv]at eJ)
    refine wO ?_;change Awp _ _ _ _ _;refine xa 2 ?_;refine aa (bC rfl rfl xi) (aa aF (rn ?_));refine⟨k+1,⟨by omega,by rw[hf,hd,Xu eJ]⟩,by omega,?_⟩;exact xh (ms:=[]) (by repeat (first|exact Out.head rfl rfl|(refine Out.put ?_ rfl))) ⟨(by rfl),trivial⟩ trivial
  ·
   (try simp only[nb,Xv]at bV)
   refine bJ ?_;change Awp _ _ _ _ _;refine ae (xa 1 (aa aA (xc (ah ?_))));refine⟨_,cS,?_⟩;rw[hf,Yu (by omega)];rfl
theorem n9(b:Bool)(e:Int):PC qP 102 [.v (.bool (b)),.v (.int .i64 (e))] (.v (.int .i64 (c9 b e))):=by
 refine av (qA Tryz.func102 rfl) rfl Tryz.ntmps102 (rs:=[.tmp 4]) Tryz.results102 (by simp) λw0=>?_;refine ae (xa 1 (aa aA (rs (ae (xa 1 (aa aF (xc (ao rfl (λbW=>?_) (λbW=>?_)))))))))
 ·
  (try simp only[nb,Xv]at bW)
  have hz:c9 b e=e:=by unfold c9;rw[Xu bW]
  refine ae (xa 2 (aa aF (aa aA (xc (ah ?_)))));refine⟨_,cS,?_⟩;rw[hz];rfl
 ·
  (try simp only[nb,Xv]at bW)
  have hz:c9 b e=0:=by unfold c9;rw[Xr (by simpa using bW)]
  refine wO ?_;change Awp _ _ _ _ _;refine ae (xa 1 (aa aA (xc (ah ?_))));refine⟨_,cS,?_⟩;rw[hz];rfl
structure iZ where
 fx:Int
 fz:Int
 co:Int
 ro:Int
 st:Int
def qO(g:iZ):List D:=[.v (.int .i64 g.fx),.v (.int .i64 g.fz),.v (.int .i64 g.co),.v (.int .i64 g.ro),.v (.int .i64 g.st)]
def gZ(g:iZ)(c:Int):Int × Int:=(g.fx+c.tmod g.co*g.st,g.fz+c.tdiv g.co*g.st)
structure kG(g:iZ):Prop where
 x1 : -100000≤g.fx
 x2:g.fx≤100000
 z1 : -100000≤g.fz
 z2:g.fz≤100000
 c1:1≤g.co
 c2:g.co≤40
 r1:1≤g.ro
 r2:g.ro≤40
 s1:1≤g.st
 s2:g.st≤10000
def qQ(g:iZ):Bool:=dP (-100000) g.fx 100000&&dP (-100000) g.fz 100000&&dP 1 g.co 40&&dP 1 g.ro 40&&dP 1 g.st 10000
theorem cY{l h a:Int}:dP l a h=true↔l≤a∧a≤h:=by unfold dP;simp
theorem AH{g:iZ}(h:qQ g=true):kG g:=by
 unfold qQ at h;simp only[Xs,cY]at h;obtain⟨⟨⟨⟨⟨a1,a2⟩,b1,b2⟩,c1,c2⟩,d1,d2⟩,e1,e2⟩:=h;exact⟨a1,a2,b1,b2,c1,c2,d1,d2,e1,e2⟩
theorem dg{g:iZ}(h:kG g):1≤g.co*g.ro∧g.co*g.ro≤1600:=by
 obtain⟨_,_,_,_,c1,c2,r1,r2,_,_⟩:=h;have h1:=lX (a:=g.co) (b:=g.ro) (A:=40) (B:=40) (by omega) (by omega) (by omega) (by omega);have h2:=Int.mul_le_mul c1 r1 (by omega) (by omega);omega
theorem mG{c b:Int}(hc:0≤c)(hb:1≤b):0≤c.tmod b∧c.tmod b<b:=⟨Int.tmod_nonneg _ hc,Int.tmod_lt_of_pos _ (by omega)⟩
theorem mH{c b:Int}(hc:0≤c)(hb:1≤b):0≤c.tdiv b∧c.tdiv b≤c:=by
 rw[Y2 hc];exact⟨Int.ediv_nonneg hc (by omega),Int.ediv_le_self _ hc⟩
theorem GZ{g:iZ}(h:kG g){c:Int}(h1:0≤c)(h2:c≤10000):(0≤c.tmod g.co*g.st∧c.tmod g.co*g.st≤1000000)∧0≤c.tdiv g.co*g.st∧c.tdiv g.co*g.st≤100000000:=by
 obtain⟨_,_,_,_,c1,c2,r1,r2,s1,s2⟩:=h;obtain⟨m1,m2⟩:=mG h1 c1;obtain⟨d1,d2⟩:=mH h1 c1;have a1:=lX (a:=c.tmod g.co) (b:=g.st) (A:=100) (B:=10000) (by omega) (by omega) (by omega) (by omega);have a2:=lX (a:=c.tdiv g.co) (b:=g.st) (A:=10000) (B:=10000) (by omega) (by omega) (by omega) (by omega);have a3:=X2 m1 (show 0≤g.st by omega);have a4:=X2 d1 (show 0≤g.st by omega);omega
theorem jG(g:iZ)(hg:kG g):PC qP 37 [.agg (qO g)] (.v (.int .i64 (g.co*g.ro))):=by
 have yO:=dg hg;obtain⟨x1,x2,z1,z2,c1,c2,r1,r2,s1,s2⟩:=hg;refine av (qA Tryz.func37 rfl) rfl Tryz.ntmps37 (rs:=[.tmp 2]) Tryz.results37 (by simp) λw0=>?_;refine ae (xa 2 (aa (aP rfl (by exact .inr ⟨_,rfl⟩)) (aa aA (rs (xa 8 (aa (af fT rfl) (aa (af fA rfl) (aa (aj bo rfl rfl) (aa (af fT rfl) (aa (af l8 rfl) (aa (aj bo rfl rfl) ?_)))))))))));refine aa (cZ rfl rfl xi) (aa aA (xc (ah ?_)));refine⟨_,cS,?_⟩;rfl
theorem qT(g:iZ)(c:Int)(hg:kG g)(h1:0≤c)(h2:c≤10000):PC qP 113 [.agg (qO g),.v (.int .i64 (c))] (.agg (shC (gZ g c))):=by
 have tZ:=GZ hg h1 h2;obtain⟨x1,x2,z1,z2,c1,c2,r1,r2,s1,s2⟩:=hg;obtain⟨m1,m2⟩:=mG h1 c1;obtain⟨d1,d2⟩:=mH h1 c1;obtain⟨⟨a1,a2⟩,a3,a4⟩:=tZ;refine av (qA Tryz.func113 rfl) rfl Tryz.ntmps113 (rs:=[.cell 4 33]) Tryz.results113 (by simp) λw0=>?_;refine ae (xa 1 (aa (aP rfl (by exact .inr ⟨_,rfl⟩)) (aw (aD r9 rfl rfl rfl (ai (xq (xa 29 (aa (af fT rfl) (aa (af gT rfl) (aa (af gU rfl) (aa (aj bo rfl rfl) (aa aF (aa (af fT rfl) (aa (af fA rfl) (aa (aj bo rfl rfl) (aa (yo rfl rfl (by omega)) (aa (af fT rfl) (aa (af oi rfl) (aa (aj bo rfl rfl) ?_)))))))))))))))))));refine aa (cZ rfl rfl xi) ?_;refine aa (bC rfl rfl xi) (aa (af fT rfl) (aa (af gT rfl) (aa (af dQ rfl) (aa (aj bo rfl rfl) (aa aF (aa (af fT rfl) (aa (af fA rfl) (aa (aj bo rfl rfl) ?_))))))));refine aa (B5 rfl rfl (by omega) xi) (aa (af fT rfl) (aa (af oi rfl) (aa (aj bo rfl rfl) ?_)));refine aa (cZ rfl rfl xi) ?_;refine aa (bC rfl rfl xi) ?_;refine aa (bz (cs:=[_,_]) LG r9 rfl (.cons rfl (by exact .inl rfl) (.cons rfl (by exact .inl rfl) .nil)) ⟨⟨rfl,by decide⟩,⟨rfl,by decide⟩,trivial⟩ rfl) (aw (ay fM rfl rfl (by exact .inr ⟨_,rfl⟩) rfl rfl (by decide) rfl (ai ?_)));change Awp _ _ _ _ _;refine ah ?_;refine⟨_,(.cons (.dn rfl rfl fM rfl) .nil),?_⟩;rfl
def Bn(g:iZ)(c:Int):Int:=c9 (!dP 0 c (g.co*g.ro - 1)) 6
def pW(g:iZ):Int:=if qQ g=true then c9 (decide (100000<(gZ g (g.co*g.ro - 1)).1)||decide (100000<(gZ g (g.co*g.ro - 1)).2)) 8 else 2
theorem gW{g:iZ}(h:pW g=0):kG g∧(gZ g (g.co*g.ro - 1)).1≤100000∧(gZ g (g.co*g.ro - 1)).2≤100000:=by
 unfold pW at h
 by_cases h1:qQ g=true
 ·rw[Xu h1,fL (by decide)]at h
  simp only[YR,YP]at h;exact⟨AH h1,by omega,by omega⟩
 ·rw[Xr h1]at h;cases h
theorem F2(g:iZ)(c:Int)(hg:kG g):PC qP 137 [.agg (qO g),.v (.int .i64 (c))] (.v (.int .i64 (Bn g c))):=by
 have yO:=dg hg;refine av (qA Tryz.func137 rfl) rfl Tryz.ntmps137 (rs:=[.tmp 4]) Tryz.results137 (by simp) λw0=>?_;refine ae (xa 2 (aa (aP rfl (by exact .inr ⟨_,rfl⟩)) (aa aA (rs (xa 8 (aa aF (aa (ax (ds:=[_,_,_,_,_]) oE rfl rfl rfl) (aa (ak F4 (.cons rfl .nil) rfl (jG _ (by assumption))) ?_))))))));refine aa (dk rfl rfl xi) (aa (ak pO (.cons rfl (.cons rfl (.cons rfl .nil))) rfl (dA _ _ _)) (aa (bX rfl) (aa (ak yZ (.cons rfl (.cons rfl .nil)) rfl (n9 _ _)) (aa aA (xc (ah ?_))))));refine⟨_,cS,?_⟩;rfl
theorem ma(g:iZ):PC qP 104 [.agg (qO g)] (.v (.int .i64 (pW g))):=by
 refine aY (qA Tryz.func104 rfl) rfl Tryz.ntmps104 (rs:=[.tmp 2]) Tryz.results104 (by simp) λw0 bQ cH iK=>?_;refine ae (xa 2 (aa (aP rfl (by exact .inr ⟨_,rfl⟩)) (aa aA (rs (ae (xa 30 (aa (af gT rfl) (aa (af gU rfl) (aa (aj bo rfl rfl) (aa (ak Tr (.cons rfl (.cons rfl .nil)) rfl (C8 _ _ (by omega) (by omega))) (aa (bX rfl) (aa aF (aE rfl rfl (λhG=>(af gT rfl)) (aE rfl rfl (λhG=>(af dQ rfl)) (aE rfl rfl (λhG=>(aj bo rfl rfl)) (aE rfl rfl (λhG=>(ak Tr (.cons rfl (.cons rfl .nil)) rfl (C8 _ _ (by omega) (by omega)))) (aE rfl rfl (λhG=>(bX rfl)) (aT rfl rfl rfl rfl rfl rfl ?_))))))))))))))))));refine aa aF (aE rfl rfl (λhG=>(af fA rfl)) (aE rfl rfl (λhG=>(aj bo rfl rfl)) (aE rfl rfl (λhG=>(ak pO (.cons rfl (.cons rfl (.cons rfl .nil))) rfl (dA _ _ _))) (aE rfl rfl (λhG=>(bX rfl)) (aT rfl rfl rfl rfl rfl rfl ?_)))));refine aa aF (aE rfl rfl (λhG=>(af l8 rfl)) (aE rfl rfl (λhG=>(aj bo rfl rfl)) (aE rfl rfl (λhG=>(ak pO (.cons rfl (.cons rfl (.cons rfl .nil))) rfl (dA _ _ _))) (aE rfl rfl (λhG=>(bX rfl)) (aT rfl rfl rfl rfl rfl rfl ?_)))));refine aa aF (aE rfl rfl (λhG=>(af oi rfl)) (aE rfl rfl (λhG=>(aj bo rfl rfl)) (aE rfl rfl (λhG=>(ak pO (.cons rfl (.cons rfl (.cons rfl .nil))) rfl (dA _ _ _))) (aE rfl rfl (λhG=>(bX rfl)) (aT rfl rfl rfl rfl rfl rfl ?_)))));refine xc (ao rfl (λbW=>?_) (λbW=>?_))
 ·
  (try simp only[nb,Xv]at bW)
  have hb:qQ g=false:=by
   cases q:qQ g with
   | false=>rfl
   | true=>unfold qQ at q;simp_all
  have hz:pW g=2:=by unfold pW;rw[hb];rfl
  refine ae (xa 1 (aa aA (xc (ah ?_))));refine⟨_,cS,?_⟩;rw[hz];(try simp only[jJ]);rfl
 ·
  (try simp only[nb,Xv]at bW)
  have hb:qQ g=true:=by unfold qQ;simp_all
  have hg:=AH hb;have yO:=dg hg;have hz:pW g=c9 (decide (100000<(gZ g (g.co*g.ro - 1)).1)||decide (100000<(gZ g (g.co*g.ro - 1)).2)) 8:=by unfold pW;rw[Xu hb]
  refine wO ?_;change Awp _ _ _ _ _;refine ae (xa 2 (aa (ax (ds:=[_,_,_,_,_]) mI rfl rfl rfl) ?_));refine aa (bz (cs:=[_,_,_,_,_]) LF Bq rfl (.cons rfl (by exact .inr ⟨_,rfl⟩) .nil) ⟨⟨rfl,by decide⟩,trivial⟩ rfl) (aw (dF Bq rfl oE rfl rfl (by exact .inr ⟨_,rfl⟩) rfl rfl (ai (xq (iN 7 [none,none,none,none,none,some 4,some 4] mixed (by kernel_rfl) (dG rfl (ax (ds:=[_,_,_,_,_]) oE rfl rfl rfl) ?_))))));refine dG rfl (ax (ds:=[_,_,_,_,_]) oE rfl rfl rfl) ?_;refine dG rfl (ak F4 (.cons rfl .nil) rfl (jG _ (by assumption))) ?_;refine dG rfl (dk rfl rfl xi) ?_;refine dG rfl (ak Du (.cons rfl (.cons rfl .nil)) rfl (qT _ _ (by assumption) (by omega) (by omega))) ?_;refine tv (k:=4) rfl rfl (by rfl) (Ac r9 rfl rfl) ?_;refine tv (k:=4) rfl rfl (by rfl) (qx fM rfl rfl (by exact .inr ⟨_,rfl⟩) rfl rfl (by decide) rfl) ?_;refine qd (ai ?_);change Awp _ _ _ _ _;refine ae (xa 10 (aa (aC gU rfl) (aa (aQ bo rfl rfl rfl) (aa (gM rfl rfl) (aa aF (aE rfl rfl (λhG=>(aC dQ rfl)) (aE rfl rfl (λhG=>(aQ bo rfl rfl rfl)) (aE rfl rfl (λhG=>(gM rfl rfl)) (aT rfl rfl rfl rfl rfl rfl ?_)))))))));refine aa (ak yZ (.cons rfl (.cons rfl .nil)) rfl (n9 _ _)) (aa aA (xc (ah ?_)));refine⟨_,cS,?_⟩;rw[hz];(try simp only[jJ]);rfl
structure Tsk where
 ar:rX
 ne:Int
 bf:List Nat
 g:iZ
def Qy(ne:Int)(bf:List Nat):List D:=[.v (.int .i64 ne),.sl 1 (bf.map fC)]
def tskC(t:Tsk):List D:=rN t.ar++Qy t.ne t.bf++qO t.g
structure TskOk(t:Tsk):Prop where
 ck:(dJ t.ar).2=0
 n1:1≤t.ne
 n2:t.ne≤16
 nl:(t.bf.length:Int)=t.ne*t.ne*64
 wh:ud t.bf
 el:(t.ar.el.length:Int)=t.ne
 gr:pW t.g=0
 z1:1≤t.g.fz
 z2:t.g.fz≤t.ar.ou.t - 1
 z3:1≤(gZ t.g (t.g.co*t.g.ro - 1)).2
 z4:(gZ t.g (t.g.co*t.g.ro - 1)).2≤t.ar.ou.t - 1
theorem wJ{a:rX}(h:(dJ a).2=0):dJ a=(0,0):=by
 unfold dJ at h ⊢
 by_cases h1:a.el.length=0
 ·rw[Xu h1]at h;cases h
 rw[Xr h1]at h ⊢
 by_cases h2:16<a.el.length
 ·rw[Xu h2]at h;cases h
 rw[Xr h2]at h ⊢
 by_cases h3:(ckEls 0 a.el).2≠0
 ·rw[Xu h3]at h;exact absurd h h3
 rw[Xr h3]at h ⊢;have h4:y6 a=0:=h;rw[h4]
theorem DJ(t:Tsk)(h:TskOk t):PC qP 71 [.agg (tskC t)] (.da [.v (.int .i64 (0)),.v (.int .i64 (0))]):=by
 have AE:=wJ h.ck;obtain⟨Et,_⟩:=iL h.ck;have wY:=h.n1;have Bi:=h.n2;have hnl:=h.nl;have hwh:=h.wh;have Pa:=h.el;obtain⟨hg,O9,WW⟩:=gW h.gr;have yO:=dg hg;have eA:dP 1 t.g.fz (t.ar.ou.t - 1)=true:=cY.2 ⟨h.z1,h.z2⟩;have eM:dP 1 (gZ t.g (t.g.co*t.g.ro - 1)).2 (t.ar.ou.t - 1)=true:=cY.2 ⟨h.z3,h.z4⟩;have hgr:=h.gr;have ht1:=Et.ou.t1;have ht2:=Et.ou.t2;refine aY (qA Tryz.func71 rfl) rfl Tryz.ntmps71 (rs:=[.tmp 2,.tmp 3]) Tryz.results71 (by simp) λw0 bQ cH iK=>?_;refine ae (xa 3 (aa (aP rfl (by exact .inr ⟨_,rfl⟩)) (aa aA (aa aA (rs (ae (xa 8 (aa (af fc rfl) (aa (ax (ds:=[_,_,_,_,_,_,_,_,_,_,_]) po rfl rfl rfl) (aa (ak NR (.cons rfl .nil) rfl ((by have h:=mc t.ar;rw[AE]at h;exact h))) (aa (aq (x:=.d (.da _)) rfl) (aa (au rfl rfl) (aa (au rfl rfl) (aa aA (aa aA (rs (xa 2 (aa aF (aa (bS rfl rfl) (xc (ao rfl (λbV=>?_) (λbV=>?_))))))))))))))))))))))
 ·
  simp at bV
 ·
  (try simp only[nb,Xv]at bV)
  refine wO ?_;change Awp _ _ _ _ _;refine ae (ae (xa 8 (aa (af iz rfl) (aa (ax (ds:=[_,_]) BD rfl rfl rfl) (aa (ak am1 (.cons rfl .nil) rfl (xM t.ne t.bf wY Bi hnl hwh)) (aa (aq (x:=.d (.da _)) rfl) (aa (au rfl rfl) (aa (au rfl rfl) (aa aA (aa aA (rs (xa 2 (aa aF (aa (bS rfl rfl) (xc (ao rfl (λeU=>?_) (λeU=>?_)))))))))))))))))
  ·
   simp at eU
  ·
   (try simp only[nb,Xv]at eU)
   refine wO ?_;change Awp _ _ _ _ _;refine ae (ae (xa 8 (aa (af fc rfl) (aa (af du rfl) (aa (aj jP rfl rfl) (aa (cd kA rfl (by exact aV _ _)) (aa (af iz rfl) (aa (af fB rfl) (aa (aj bo rfl rfl) (aa (bS rfl rfl) (xc (bm (t:=32) rfl (λVa=>?_)))))))))))))
   (try simp only[Xo]at Va)
   refine ao rfl (λmo=>?_) (λmo=>?_)
   ·
    rw[XW]at mo;exact absurd Pa mo
   ·
    (try simp only[nb,Xv]at mo)
    refine wO ?_;change Awp _ _ _ _ _;refine ae (ae (xa 4 (aa (af fy rfl) (aa (ax (ds:=[_,_,_,_,_]) mI rfl rfl rfl) (aa (ak NT (.cons rfl .nil) rfl ((by have h:=ma t.g;rw[hgr]at h;exact h))) (aa aA (rs (xa 2 (aa aF (aa (bS rfl rfl) (xc (ao rfl (λlF=>?_) (λlF=>?_)))))))))))))
    ·
     simp at lF
    ·
     (try simp only[nb,Xv]at lF)
     refine wO ?_;change Awp _ _ _ _ _;refine ae (xa 3 (aa (af fy rfl) (aa (ax (ds:=[_,_,_,_,_]) mI rfl rfl rfl) ?_)));refine aa (bz (cs:=[_,_,_,_,_]) LF Bq rfl (.cons rfl (by exact .inr ⟨_,rfl⟩) .nil) ⟨⟨rfl,by decide⟩,trivial⟩ rfl) (aw (dF Bq rfl oE rfl rfl (by exact .inr ⟨_,rfl⟩) rfl rfl (ai (xq (xa 5 (aa (af fc rfl) (aa (af iA rfl) (aa (af fD rfl) (aa (aj bo rfl rfl) (aa aA (rs (xa 23 (aa (af fy rfl) (aa (af gT rfl) (aa (af dQ rfl) (aa (aj bo rfl rfl) (aa aF ?_)))))))))))))))));refine aa (dk rfl rfl xi) (aa (ak pO (.cons rfl (.cons rfl (.cons rfl .nil))) rfl (dA _ _ _)) (aa (bX rfl) (aa aF (aE rfl rfl (λhG=>(ax (ds:=[_,_,_,_,_]) oE rfl rfl rfl)) (aE rfl rfl (λhG=>(ax (ds:=[_,_,_,_,_]) oE rfl rfl rfl)) (aE rfl rfl (λhG=>(ak F4 (.cons rfl .nil) rfl (jG _ (by assumption)))) ?_))))));refine aE rfl rfl (λhG=>(dk rfl rfl (lL.mk (by (have iR:=T.cP (a:=_) hG.1;(try simp only[nb,Xv]at iR);omega)) (by (have iR:=T.cP (a:=_) hG.1;(try simp only[nb,Xv]at iR);omega))))) (aE rfl rfl (λhG=>(ak Du (.cons rfl (.cons rfl .nil)) rfl (qT _ _ (by assumption) (by omega) (by omega)))) (aE rfl rfl (λhG=>(zN F1 bo rfl rfl)) (aE rfl rfl (λhG=>aF) ?_)));refine aE rfl rfl (λhG=>(dk rfl rfl (lL.mk (by (have iR:=T.cP (a:=_) hG.1;(try simp only[nb,Xv]at iR);omega)) (by (have iR:=T.cP (a:=_) hG.1;(try simp only[nb,Xv]at iR);omega))))) (aE rfl rfl (λhG=>(ak pO (.cons rfl (.cons rfl (.cons rfl .nil))) rfl (dA _ _ _))) (aE rfl rfl (λhG=>(bX rfl)) (aT rfl rfl rfl rfl rfl rfl ?_)));refine aa (ak yZ (.cons rfl (.cons rfl .nil)) rfl (n9 _ _)) (aa aA (aa aA (xc (ah ?_))));refine⟨_,gz,?_⟩;simp[c9,eA,eM,retD]
def Bo(l:List Nat)(i:Nat):List Nat:=(l.take (64*i+64)).drop (64*i)
def Ew(l:List Nat)(i:Nat):List (List Nat):=(List.range i).map (Bo l)
def al9(b:List Nat):List D:=[.sl 1 (b.map fC)]
theorem rG(l:List Nat)(i:Nat):Ew l (i+1)=Ew l i++[Bo l i]:=by unfold Ew;rw[ZA,Yw];rfl
theorem H9{l:List Nat}{i:Nat}:∀{m:Nat},i≤m->Ew l i <+: Ew l m
 | 0, h => by
   have:i=0:=by omega
   subst this;exact Zn
 | m+1,h=>by
  by_cases e:i=m+1
  ·subst e;exact Zn
  ·rw[rG];exact(H9 (show i≤m by omega)).trans (Y7 _ _)
theorem RG{l:List Nat}{i m:Nat}(h:l.length=64*m)(hi:i<m):(Bo l i).length=64:=by
 unfold Bo;rw[ZW,Ya];omega
theorem RF(l:List Nat)(i:Nat):((l.map fC).take (64*i+64)).drop (64*i)=(Bo l i).map fC:=by unfold Bo;rw[List.map_drop,List.map_take]
theorem Oa{l:List Nat}(h:ud l)(i:Nat):ud (Bo l i):=λb hb=>h b (List.mem_of_mem_take (List.mem_of_mem_drop hb))
theorem Rz(l:List Nat)(m:Nat)(h1:l.length=64*m)(h2:m≤10000):PI qP 116 [] [.pt [.sl 1 (l.map fC)] 0,.pt [.v (.int .i64 (64))] 0] (al9) (Ew l m) true:=by
 refine sC (qA Tryz.func116 rfl) rfl Tryz.ntmps116 rfl rfl λJ c l0 hJ hy AD qL=>?_;refine cG ?_;apply dC hJ
 ·
  intro c1 bQ cH;refine xa 1 (aa aA (rn ?_));exact⟨rfl,rfl⟩
 change iw _ _ _ _ _ _ _;refine fo ?_;refine lD [4,5,6,7,8,9,10,11,12,13,14,15,16,17,18,19,20,21,22,23,24,25,26,27,28,29,30] [] (β:=Nat) (λi=>[(4,T.i ((64*i:Nat):Int))]) (λi=>[]) (λi=>(true,Ew l i)) (λi=>i≤m) (λi=>m - i) 0 (XC _) rfl (λc1=>?_) ?_
 ·exact xh (ms:=[]) (by repeat (exact Out.refl _)) ⟨(by rfl),trivial⟩ trivial
 ·
  intro i hi;refine cG ?_;refine cG ?_;apply dC hJ
  ·
   intro c1 bQ cH;refine xa 4 (aa aF (aa (aj oF rfl rfl) (aa (cd qD rfl (by exact aV _ _)) (aa (cM rfl rfl) (rn ?_)))));exact⟨rfl,rfl⟩
  change iw _ _ _ _ _ _ _;refine Ap (t:=7) rfl (λMX=>?_)
  (try simp only[Xo]at MX)
  refine gR rfl (λbW=>?_) (λbW=>?_)
  ·
   (try simp only[nb,Xv]at bW)
   have bH:i<m:=by omega
   have Au:Ew l i++[Bo l i] <+: Ew l m:=by rw[<-rG];exact H9 bH
   have hmn:min (64:Int) ((List.drop (64*i) (List.take (l.map fC).length l)).length:Int)=64:=by rw[Xo,YL,ZW];omega
   have QV:((64*i:Nat):Int)+64=((64*i+64:Nat):Int):=by omega
   refine gQ ?_;change iw _ _ _ _ _ _ _;refine cG ?_;refine fo ?_;refine cG ?_;apply dC hJ
   ·
    intro c1 bQ cH;refine xa 7 (aa (aj bo rfl rfl) (aa (aj oF rfl rfl) (aa aF (aa (Qd xf rfl rfl rfl (by rw[Xo];omega) (Xw _) (by exact Jh _ _ _ _)) (aa (cd qD rfl (by exact aV _ _)) (aa (tx rfl rfl) (aa aA (rn ?_))))))));exact⟨rfl,rfl⟩
   change iw _ _ _ _ _ _ _;refine Ap (t:=16) rfl (λAy=>?_)
   (try simp only[Xo]at Ay)
   refine cG ?_;rw[hmn];refine vG ?_;refine en hJ rfl (λc1 _ _ _ h=>by exact aN rfl ((aq (x:=.d (.fn _ _)) rfl)) h) ?_;refine en hJ rfl (λc1 _ _ _ h=>by exact aN rfl ((aj oF rfl rfl)) h) ?_;refine en hJ rfl (λc1 _ _ _ h=>by exact aN rfl (aF) h) ?_;refine en hJ rfl (λc1 _ _ _ h=>by exact aN rfl (aF) h) ?_;refine en hJ rfl (λc1 _ _ _ h=>by exact aN rfl (aF) h) ?_;refine en hJ rfl (λc1 _ _ _ h=>by exact aN rfl ((bC rfl rfl xi)) h) ?_;refine en hJ rfl (λc1 _ _ _ h=>by exact aN rfl (aF) h) ?_;refine en hJ rfl (λc1 _ _ _ h=>by exact aN rfl (aF) h) ?_;refine en hJ rfl (λc1 _ _ _ h=>by exact aN rfl ((bC rfl rfl xi)) h) ?_;rw[QV];refine en hJ rfl (λc1 _ _ _ h=>by exact aN rfl ((IZ (lo:=64*i) (hi:=64*i+64) (es':=(Bo l i).map fC) xf rfl rfl rfl rfl (by omega) (by rw[Xo];omega) (RF l i))) h) ?_;refine pJ (x:=(Bo l i)) hy AD rfl (.cons rfl .nil) Au rfl (λyb=>?_);refine en hJ rfl (λc1 _ _ _ h=>by exact aN rfl ((bX rfl)) h) ?_;refine qF ?_;change iw _ _ _ _ _ _ _;refine gR rfl (λeJ=>?_) (λeJ=>?_)
   ·
    (try simp only[nb,Xv]at eJ)
    have HO:yb=false:=by cases yb<;>first|rfl|(exfalso;simp_all;done)
    refine Ao ?_;exact⟨.inl rfl,λh=>by rw[HO]at h;cases h⟩
   ·
    (try simp only[nb,Xv]at eJ)
    have HO:yb=true:=by cases yb<;>first|rfl|(exfalso;simp_all;done)
    refine gQ ?_;change iw _ _ _ _ _ _ _;apply dC hJ
    ·
     intro c1 bQ cH;refine xa 4 (aa aF (aa (aj bo rfl rfl) ?_));refine aa (bC rfl rfl xi) (aa aA (rn ?_));exact⟨rfl,rfl⟩
    refine⟨i+1,by omega,by omega,by rw[HO,rG],λc1=>?_⟩;exact xh (ms:=[]) (by repeat (first|exact Out.head rfl rfl|(refine Out.put ?_ rfl))) ⟨(by rfl),trivial⟩ trivial
  ·
   (try simp only[nb,Xv]at bW)
   have qK:i=m:=by omega
   refine m6 ?_;exact⟨.inr rfl,λ_=>by rw[qK]⟩
theorem Ry(l:List Nat):PC qP 72 [.sl 1 (l.map fC),.v (.int .i64 (64))] (.fn (.func 116) [.pt [.sl 1 (l.map fC)] 0,.pt [.v (.int .i64 (64))] 0]):=by
 refine av (qA Tryz.func72 rfl) rfl Tryz.ntmps72 (rs:=[.tmp 4]) Tryz.results72 (by simp) λw0=>?_;refine ae (xa 3 (aa (aP rfl (by exact .inl rfl)) (aa (aP rfl (by exact .inl rfl)) (aa (aG (x:=.d (.v .nilFunc)) rfl) (rs (ae (xa 2 (aa (aj bo rfl rfl) (aa (cM rfl rfl) (xc (ao rfl (λbW=>?_) (λbW=>?_))))))))))))
 ·
  cases bW
 ·
  (try simp only[nb,Xv]at bW)
  refine wO ?_;change Awp _ _ _ _ _;refine ae (xa 2 (aa (jw (.cons rfl (.cons rfl .nil))) (aa (aG (x:=.d (.fn _ _)) rfl) (xc (ah ?_)))));refine⟨_,cS,?_⟩;rfl
def PD(t:Tsk):Nat:=(t.ne*t.ne).toNat
def G5(l:List Nat)(i:Nat):List (List D):=(Ew l i).map λb=>D7 (b.map vI)
def tkC(t:Tsk):List D:=qO t.g++rN t.ar++[.v (.int .i64 t.ne),.sl 61 (G5 t.bf (PD t))]
theorem KZ(l:List Nat)(i:Nat):G5 l (i+1)=G5 l i++[D7 ((Bo l i).map vI)]:=by unfold G5;rw[rG,Yw];rfl
theorem PT(l:List Nat)(i:Nat):(G5 l i).length=i:=by unfold G5 Ew;rw[Xo,Xo,Yx]
theorem OF(S:List Int):∀d∈D7 S,D.Flat d:=by
 intro d hd;unfold D7 at hd;obtain⟨k,_,rfl⟩:=X6.1 hd;exact .v _
theorem K0(l:List Nat)(i:Nat):∀x∈G5 l i,∀d∈x,D.Flat d:=by
 intro x hx d hd;unfold G5 at hx;obtain⟨b,_,rfl⟩:=X6.1 hx;exact OF _ d hd
theorem GO{t:Tsk}(h:TskOk t):t.bf.length=64*PD t∧PD t≤256∧((PD t:Nat):Int)=t.ne*t.ne:=by
 have h1:=h.n1;have h2:=h.n2;have h3:=h.nl;have hm:=lX (a:=t.ne) (b:=t.ne) (A:=16) (B:=16) (by omega) (by omega) (by omega) (by omega);have hp:=X2 (show 0≤t.ne by omega) (show 0≤t.ne by omega);unfold PD;omega
theorem V6{l:List Nat}{m k:Nat}{y:List Nat}(h:(Ew l m)[k]?=some y):k<m∧y=Bo l k:=by
 unfold Ew at h;rw[XF]at h
 cases hr:(List.range m)[k]? with
 | none=>rw[hr]at h;cases h
 | some j=>
  rw[hr]at h;obtain⟨h1,h2⟩:=Xt.1 hr;rw[Yx]at h1;rw[List.getElem_range]at h2;subst h2
  cases h
  exact⟨h1,rfl⟩
theorem zX(t:Tsk)(h:TskOk t):PC qP 31 [.agg (tskC t)] (.da [.pt (tkC t) 0,.v (.int .i64 (0))]):=by
 have AE:=wJ h.ck;obtain⟨Et,_⟩:=iL h.ck;have wY:=h.n1;have Bi:=h.n2;have hnl:=h.nl;have hwh:=h.wh;have Pa:=h.el;obtain⟨hg,O9,WW⟩:=gW h.gr;have yO:=dg hg;have eA:dP 1 t.g.fz (t.ar.ou.t - 1)=true:=cY.2 ⟨h.z1,h.z2⟩;have eM:dP 1 (gZ t.g (t.g.co*t.g.ro - 1)).2 (t.ar.ou.t - 1)=true:=cY.2 ⟨h.z3,h.z4⟩;have hgr:=h.gr;have ht1:=Et.ou.t1;have ht2:=Et.ou.t2;obtain⟨J8,Rc,hb3⟩:=GO h;refine aY (qA Tryz.func31 rfl) rfl Tryz.ntmps31 (rs:=[.tmp 2,.tmp 3]) Tryz.results31 (by simp) λw0 bQ cH iK=>?_;refine ae (xa 3 (aa (aP rfl (by exact .inr ⟨_,rfl⟩)) (aa aA (aa aA (rs (ae (xa 7 (aa (ax kJ rfl rfl rfl) (aa (ak am3 (.cons rfl .nil) rfl (DJ t h)) (aa (aq (x:=.d (.da _)) rfl) (aa (au rfl rfl) (aa (au rfl rfl) (aa aA (aa aA (rs (xa 2 (aa aF (aa (bS rfl rfl) (xc (ao rfl (λbV=>?_) (λbV=>?_)))))))))))))))))))))
 ·
  simp at bV
 ·
  (try simp only[nb,Xv]at bV)
  refine wO ?_;change Awp _ _ _ _ _;refine ae (xa 9 (aa (af fy rfl) (aa (ax (ds:=[_,_,_,_,_]) mI rfl rfl rfl) ?_)));refine aa (bz (cs:=[_,_,_,_,_]) LF Bq rfl (.cons rfl (by exact .inr ⟨_,rfl⟩) .nil) ⟨⟨rfl,by decide⟩,trivial⟩ rfl) (aa (af fc rfl) (aa (ax (ds:=[_,_,_,_,_,_,_,_,_,_,_]) po rfl rfl rfl) (aa (af iz rfl) (aa (af fB rfl) (aa (aj bo rfl rfl) ?_)))));refine aa (bz av5 at4 rfl (.cons rfl (by exact .inr ⟨_,rfl⟩) (.cons rfl (by exact .inr ⟨_,rfl⟩) (.cons rfl (by exact .inl rfl) .nil))) ⟨⟨rfl,by decide⟩,⟨rfl,by decide⟩,⟨rfl,by decide⟩,trivial⟩ rfl) (aw (D6 rfl (by exact .inr ⟨_,rfl⟩) rfl rfl rfl ?_));refine aD Kg rfl rfl rfl (Io (HL (k:=6) (ts:=[_]) rfl rfl) ?_);refine tK (z:=.ref _ _) lg rfl rfl rfl rfl (by decide) rfl (ai (xq (ae (xa 4 (aa (af iz rfl) (aa (af fU rfl) (aa (aj oF rfl rfl) (aa (ak aD3 (.cons rfl (.cons rfl .nil)) rfl (Ry t.bf)) (xc (az (Awp.le (QH 27 47 17 202 61 rfl rfl rfl) ?_)))))))))));refine DV (α:=List Nat) (β:=Nat) (n:=51) (enc:=al9) (items:=Ew t.bf (PD t)) 1000 [(6,.ref 6 0),(31,.d (.fn (.func 116) [.pt [.sl 1 (t.bf.map fC)] 0,.pt [.v (.int .i64 (64))] 0]))] (λx=>[(6,.cn [.ref 27 0]),(27,.cn [.d (.v (.int .i64 (t.g.fx))),.d (.v (.int .i64 (t.g.fz))),.d (.v (.int .i64 (t.g.co))),.d (.v (.int .i64 (t.g.ro))),.d (.v (.int .i64 (t.g.st))),.d (.sl 2 (t.ar.el.map shC)),.d (.v (.int .i64 (t.ar.ou.w))),.d (.v (.int .i64 (t.ar.ou.m))),.d (.v (.int .i64 (t.ar.ou.k))),.d (.v (.int .i64 (t.ar.ou.t))),.d (.v (.int .i64 (t.ar.ba.w))),.d (.v (.int .i64 (t.ar.ba.m))),.d (.v (.int .i64 (t.ar.ba.k))),.d (.v (.int .i64 (t.ar.ba.t))),.d (.v (.int .i64 (t.ar.ts.1))),.d (.v (.int .i64 (t.ar.ts.2))),.d (.v (.int .i64 (t.ne))),.rs 47]),(47,.row 202 61 (G5 t.bf x))]) (λk x=>x=k) (λe x=>False) 0 27 5 (.sl 2 (t.ar.el.map shC)) cH ?_ (.inr ⟨rfl,rfl⟩) aq7 (Rz t.bf (PD t) J8 (by omega)) rfl (λ_=>rfl) rfl (λu x=>qV (gS (C7 (by repeat (first|exact HY|refine C6 (by trivial) ?_))) (gS (C7 (by repeat (first|exact HY|refine C6 (by first|exact D.Flat.v _|trivial) ?_))) (gS (K0 _ _) uE)))) (λx=>⟨_,rfl,rfl⟩) (λ_=>rfl) rfl (λh=>by cases h) ?_ ?_ ?_
  ·exact vD (λk=>k) _ _ rfl ⟨(by first|rfl),(by first|rfl),trivial⟩ ⟨(by first|rfl),(by first|rfl),(by first|rfl),trivial⟩ rfl (λk b h=>by rw[iK k]at h;cases h)
  ·
   intro u w1 tX k x y hI hy;subst hI;obtain⟨bH,rfl⟩:=V6 hy;have hlk:=RG J8 bH;have UY:=Oa hwh x;have hsl:=PT t.bf x;have U3:G5 t.bf x++[D7 ((Bo t.bf x).map vI)]=G5 t.bf (x+1):=(KZ _ _).symm;refine xa 1 (aa (aG (x:=.d (.sl _ _)) rfl) (rn ?_));refine⟨rfl,λw2 tW=>?_⟩;refine az (ae (xa 7 (aa (aq (x:=.d (.sl _ _)) rfl) (aa (Hh (cs:=(Bo t.bf x).map fd) OB rfl (Ny _).symm (by rw[Xo];exact hlk) (by decide)) ?_))));refine aa (ax (ds:=(Bo t.bf x).map fd) KD rfl (by rw[Z1];exact Yo (by rw[Xo,hlk];exact Xw _)) (by rw[Xo];exact hlk)) (aa (ak aD2 (.cons rfl .nil) rfl (Gv (Bo t.bf x) hlk UY)) (aa (aq (x:=.d (.da _)) rfl) (aa (au rfl rfl) (aa (au rfl rfl) (aw (dF Ki rfl BE rfl rfl (by exact .inr ⟨_,rfl⟩) (oC _) rfl (aN rfl aA (ai ?_))))))));change Awp _ _ _ _ _;refine kE 7 1 [0] mixed (by kernel_rfl) ?_;refine aa (fO (x:=.ref _ _) lg rfl rfl rfl) (aa (fO (x:=.ref _ _) lg rfl rfl rfl) (aa (mV rfl) (aa (aC AI rfl) (aa (fO (x:=.rs _) TX rfl rfl rfl) (aa (ax BE rfl rfl rfl) (aa (bu Uh R2 rfl rfl (by decide) (.cons rfl (by exact .inr ⟨_,rfl⟩) .nil) ⟨rfl,rfl,trivial⟩ rfl (by decide) rfl) (aw ?_)))))));refine Jj (Oc Uh R2 as1 rfl (by decide) rfl rfl rfl rfl (by (try simp only[Xo,XI,XH,XL]);omega) (by (try simp only[Xo,XI,XH,XL]);omega) rfl) ?_ ?_
   ·refine gu rfl rfl rfl (JL (fO (x:=.ref _ _) lg rfl rfl rfl)) ?_
    exact wC
   refine qC ?_;refine aN rfl (mV rfl) (aN rfl (aC AI rfl) (tK (z:=.rs _) TX rfl rfl rfl rfl (by exact Nat.le_of_ble_eq_true rfl) rfl (ai (.inl ⟨rfl,x+1,rfl,?_⟩))));exact jA [] _ tW rfl ⟨(by rfl),(by rfl),(by (show Site.row _ _ _=Site.row _ _ _;rw[<-U3];rfl)),trivial⟩ rfl
  ·
   intro x hI;have W4:x=PD t:=by rw[hI];unfold Ew;rw[Xo,Yx]
   subst W4;change Awp _ _ _ _ _;refine ae (Awp.le (tB 27 47 17 rfl rfl rfl rfl bQ) ?_);refine Awp.le (HM 27 (tkC t) rfl rfl (by intro j d h;match j,h with|0,h|1,h|2,h|3,h|4,h|5,h|6,h|7,h|8,h|9,h|10,h|11,h|12,h|13,h|14,h|15,h|16,h|17,h=>cases h;rfl)) ?_;refine xa 3 (aa (fO (x:=.ref _ _) lg rfl rfl rfl) (aa (aG (x:=.ref _ _) rfl) (aa aA (rn ?_))));change Awp _ _ _ _ _;refine Awp.le (nZ 27 2 0 (cs:=tkC t) rfl rfl rfl rfl bQ) ?_;refine ah ?_;refine⟨_,gz,?_⟩;rfl
  ·
   exact λe x h=>h.elim
def Qr(t:Tsk)(c:Int)(pr:Int × Int):Int:=firstE [Bn t.g c,c9 (!dP 0 pr.1 (t.ne - 1) || !dP 0 pr.2 (t.ne - 1)) 6]
theorem I9{t:Tsk}{c:Int}(h:1≤t.ne):Qr t c (0,0)=Bn t.g c:=by
 have e:dP 0 (0:Int) (t.ne - 1)=true:=cY.2 ⟨by omega,by omega⟩;unfold Qr;rw[e];show (if Bn t.g c=0 then firstE [0] else Bn t.g c)=_
 split
 ·rename_i q;rw[q];rfl
 ·rfl
theorem Gb{g:iZ}{c:Int}(h:Bn g c=0):0≤c∧c≤g.co*g.ro - 1:=by
 unfold Bn at h;rw[fL (by decide),Y6]at h;exact cY.1 h
theorem G3{g:iZ}(hg:kG g):gZ g (g.co*g.ro - 1)=(g.fx+(g.co - 1)*g.st,g.fz+(g.ro - 1)*g.st):=by
 have hc:=hg.c1;have hr:=hg.r1;have yO:=(dg hg).1;have e:g.co*g.ro - 1=(g.co - 1)+(g.ro - 1)*g.co:=by grind
 unfold gZ;rw[Int.tmod_eq_emod_of_nonneg (by omega),Y2 (by omega),e,Int.add_mul_emod_self_right,Int.emod_eq_of_lt (by omega) (by omega),Int.add_mul_ediv_right _ _ (by omega),Int.ediv_eq_zero_of_lt (by omega) (by omega),Int.zero_add]
theorem ab9{t:Tsk}(h:TskOk t){c:Int}(h1:0≤c)(h2:c≤t.g.co*t.g.ro - 1):(-100000≤(gZ t.g c).1∧(gZ t.g c).1≤100000)∧(-100000≤(gZ t.g c).2∧(gZ t.g c).2≤100000)∧1≤(gZ t.g c).2∧(gZ t.g c).2≤t.ar.ou.t - 1:=by
 obtain⟨hg,O9,WW⟩:=gW h.gr;have z1:=h.z1;have z4:=h.z4;rw[G3 hg]at O9 WW z4;simp only at O9 WW z4;obtain⟨x1,x2,w1,w2,c1,c2,r1,r2,s1,s2⟩:=hg;obtain⟨m1,m2⟩:=mG h1 c1;obtain⟨d1,d2⟩:=mH h1 c1
 have d3:c.tdiv t.g.co≤t.g.ro - 1:=by
  rw[Y2 h1];have:=Int.ediv_lt_of_lt_mul (a:=c) (b:=t.g.ro) (c:=t.g.co) (by omega) (by rw[Int.mul_comm];omega);omega
 have a1:=Y8 (show c.tmod t.g.co≤t.g.co - 1 by omega) (show 0≤t.g.st by omega);have a2:=Y8 d3 (show 0≤t.g.st by omega);have a3:=X2 m1 (show 0≤t.g.st by omega);have a4:=X2 d1 (show 0≤t.g.st by omega);unfold gZ;simp only;omega
theorem Hs{t:Tsk}(h:TskOk t){c:Int}{pr:Int × Int}(hc:Bn t.g c=0)(hp:(0≤pr.1∧pr.1<t.ne)∧0≤pr.2∧pr.2<t.ne):Ch t.ar (gZ t.g c) pr=0:=by
 obtain⟨c1,c2⟩:=Gb hc;obtain⟨i1,i2,i3,i4⟩:=ab9 h c1 c2;have Pa:=h.el;unfold Ch;rw[Xr (λq=>q h.ck)];refine fe.2 ?_;simp only[Xy,XG,Yn,ZE,forall_eq];refine⟨nP.2 ⟨i1,i2⟩,(gE (by decide)).2 (cY.2 ⟨i3,i4⟩),?_⟩;unfold vk;rw[Pa,fL (by decide),cY.2 ⟨hp.1.1,by omega⟩,cY.2 ⟨hp.2.1,by omega⟩];rfl
theorem Fq(t:Tsk)(c:Int)(pr:Int × Int)(h:TskOk t):PC qP 108 [.agg (tskC t),.v (.int .i64 (c)),.agg (shC pr)] (.da [.pt (tkC t) 0,.v (.int .i64 (Qr t c pr))]):=by
 have wY:=h.n1;have Bi:=h.n2;obtain⟨hg,_,_⟩:=gW h.gr;refine aY (qA Tryz.func108 rfl) rfl Tryz.ntmps108 (rs:=[.tmp 6,.tmp 7]) Tryz.results108 (by simp) λw0 bQ cH iK=>?_;refine ae (xa 4 (aa (aP rfl (by exact .inr ⟨_,rfl⟩)) (aa (aP rfl (by exact .inr ⟨_,rfl⟩)) (aa aA (aa aA (rs (xa 7 (aa (ax kJ rfl rfl rfl) (aa (ak JD (.cons rfl .nil) rfl (zX t h)) (aa (aq (x:=.d (.da _)) rfl) (aa (au rfl rfl) (aa (au rfl rfl) (aa (aG (x:=.d (.pt _ _)) rfl) (aa aA (rs (ae (xa 2 (aa aF (aa (bS rfl rfl) (xc (ao rfl (λbV=>?_) (λbV=>?_))))))))))))))))))))))
 ·
  simp at bV
 ·
  (try simp only[nb,Xv]at bV)
  refine wO ?_;change Awp _ _ _ _ _;refine ae (xa 6 (aa (aq (x:=.d (.pt _ _)) rfl) (aa (bZ rfl) (aa (af oh rfl) (aa (aj bo rfl rfl) ?_)))));refine aa (dk rfl rfl xi) (aa aA (rs (xa 24 (aa (aq (x:=.d (.pt _ _)) rfl) (aa (aq (x:=.d (.pt _ _)) rfl) (aa (bZ rfl) (aa (af qZ rfl) (aa (ax (ds:=[_,_,_,_,_]) oE rfl rfl rfl) (aa aF (aa (ak ap7 (.cons rfl (.cons rfl .nil)) rfl (F2 t.g c hg)) (aa (cj kF rfl rfl (by omega) (by omega)) (aa (aj bo rfl rfl) (aa aF (aa (ak pO (.cons rfl (.cons rfl (.cons rfl .nil))) rfl (dA _ _ _)) (aa (bX rfl) (aa aF ?_))))))))))))))));refine aE rfl rfl (λhG=>(cj kF rfl rfl (by (have iR:=T.cP (a:=_) hG.1;(try simp only[nb,Xv]at iR);omega)) (by (have iR:=T.cP (a:=_) hG.1;(try simp only[nb,Xv]at iR);omega)))) (aE rfl rfl (λhG=>(aj bo rfl rfl)) (aE rfl rfl (λhG=>aF) (aE rfl rfl (λhG=>(ak pO (.cons rfl (.cons rfl (.cons rfl .nil))) rfl (dA _ _ _))) (aE rfl rfl (λhG=>(bX rfl)) (aT rfl rfl rfl rfl rfl rfl ?_)))));refine aa (ak yZ (.cons rfl (.cons rfl .nil)) rfl (n9 _ _)) (aa (bu oT EA rfl rfl (by decide) (.cons rfl (by exact .inl rfl) (.cons rfl (by exact .inl rfl) .nil)) ⟨rfl,rfl,rfl,rfl,trivial⟩ rfl (by decide) rfl) (aa (ak ap8 (.cons rfl .nil) rfl (Nw [_,_])) (aa (aG (x:=.d (.pt _ _)) rfl) (aa aA (xc (ah ?_))))));refine⟨_,gz,?_⟩;unfold Qr;(try simp only[jJ]);rfl
theorem vq(t:Tsk)(c:Int)(h:TskOk t):PC qP 60 [.agg (tskC t),.v (.int .i64 (c))] (.da [.pt (tkC t) 0,.v (.int .i64 (Bn t.g c))]):=by
 have hz:=I9 (t:=t) (c:=c) h.n1;refine aY (qA Tryz.func60 rfl) rfl Tryz.ntmps60 (rs:=[.tmp 4,.tmp 5]) Tryz.results60 (by simp) λw0 bQ cH iK=>?_;refine ae (xa 3 (aa (aP rfl (by exact .inr ⟨_,rfl⟩)) (aa aA (aa aA (rs (xa 8 (aa (ax kJ rfl rfl rfl) (aa aF (aa (qk (cs:=[_,_]) kF Bt rfl .nil trivial rfl) ?_)))))))));refine aa (ak ar0 (.cons rfl (.cons rfl (.cons rfl .nil))) rfl ((by have h:=Fq t c (0,0) h;rw[hz]at h;exact h))) (aa (au rfl rfl) (aa (au rfl rfl) (aa (aG (x:=.d (.pt _ _)) rfl) (aa aA (xc (ah ?_))))));refine⟨_,gz,?_⟩;rfl
def gY(n:Nat):List Int:=(List.range n).map λi:Nat=>(i:Int)
theorem zd(n:Nat):gY (n+1)=gY n++[(n:Int)]:=by unfold gY;rw[ZA,Yw];rfl
theorem rQ(n:Nat):(gY n).length=n:=by unfold gY;rw[Xo,Yx]
theorem Iq{n:Nat}{i:Int}(h:i∈gY n):0≤i∧i<n:=by
 unfold gY at h;obtain⟨k,hk,rfl⟩:=X6.1 h;have:=YJ.1 hk;omega
theorem OH(t:Tsk)(h1:1≤t.ne)(h2:t.ne≤16):PC qP 44 [.pt (tkC t) 0] (.sl 1 ((gY t.ne.toNat).map iC)):=by
 refine aY (qA Tryz.func44 rfl) rfl Tryz.ntmps44 (rs:=[.tmp 2]) Tryz.results44 (by simp) λw0 bQ cH iK=>?_;refine ae (xa 1 (aa (aG (x:=.d (.sl _ _)) rfl) (rs (xa 1 (aa (fP) (rn ?_))))));change Awp _ _ _ _ _;refine Awp.le (sI (k:=3) (e:=3) (sz:=1) rfl rfl) ?_;refine ae (ae (xa 5 (aa (aq (x:=.d (.pt _ _)) rfl) (aa (bZ rfl) (aa (af oh rfl) (aa (aj bo rfl rfl) (aa aF (xc (az (bG [3,4,9,10,11,12,13,14,15,16] [3] (α:=Nat) (λk=>[(9,T.i (k:Int)),(3,.rs 3)]) (λk=>[(3,.row 3 1 ((gY k).map iC))]) (λk=>k≤t.ne.toNat) (λk=>t.ne.toNat - k) 0 (XC _) ?_ ?_))))))))))
 ·exact xh (ms:=[3]) (by repeat (exact Out.refl _)) ⟨(by rfl),(by rfl),trivial⟩ ⟨(by rfl),trivial⟩
 ·
  intro k hk;have hal:=rQ k;refine ae (xa 1 (aa (cM rfl rfl) (rs (ao rfl (λdB=>?_) (λdB=>?_)))))
  ·
   (try simp only[nb,Xv]at dB)
   have tY:(gY (k+1)).map iC=(gY k).map iC++[[.v (.int .i64 (k:Int))]]:=by rw[zd,Yw];rfl
   refine wO ?_;change Awp _ _ _ _ _;refine ae (az (ae (xa 2 (aa aF (aa aA (rn ?_))))));change Awp _ _ _ _ _;refine xa 3 (aa (aq (x:=.rs _) rfl) (aa aF (aa (bu gK Br rfl rfl (by decide) (.cons rfl (by exact .inl rfl) .nil) ⟨rfl,rfl,trivial⟩ rfl (by decide) rfl) (aw ?_))));refine eX gK Br by3 rfl (by decide) rfl rfl rfl rfl (by (try simp only[Xo,XI,XH,XL]);omega) (by (try simp only[Xo,XI,XH,XL]);omega) rfl rfl ?_;refine aN rfl (aG (x:=.rs _) rfl) (ai ?_);change Awp _ _ _ _ _;refine xa 2 ?_;refine aa (bC rfl rfl xi) (aa aF (rn ?_));refine⟨k+1,by omega,by omega,?_⟩;exact xh (ms:=[3]) (by repeat (first|exact Out.head rfl rfl|(refine Out.put ?_ rfl)|(refine Out.site ?_ rfl)|(refine Out.dE ?_ rfl))) ⟨(by rfl),(by rfl),trivial⟩ ⟨(by ((show Site.row 3 1 _=Site.row 3 1 _;rw[tY];rfl))),trivial⟩
  ·
   (try simp only[nb,Xv]at dB)
   have vP:k=t.ne.toNat:=by omega
   subst vP;refine bJ ?_;change Awp _ _ _ _ _;refine ae (xa 2 (aa (aq (x:=.rs _) rfl) (aa (aG (x:=.rs _) rfl) (xc (ah ?_)))));refine⟨_,(.cons (.tmp (by exact .rs rfl)) .nil),?_⟩;rfl
theorem sG(t:Tsk)(tm:Int)(h:Ej t.ar)(h1 : -1000000000000≤tm)(h2:tm≤1000000000000):PC qP 114 [.pt (tkC t) 0,.v (.int .i64 (tm))] (.v (.int .i64 (IU (tm - t.ar.ts.1) t.ar.ts.2))):=by
 obtain⟨_,_,_,_,_,_,t1,t2,t3,t4⟩:=h;have hq:=GU (a:=2*(tm - t.ar.ts.1)+t.ar.ts.2) (b:=2*t.ar.ts.2) ⟨by omega,by omega⟩ (by omega);obtain⟨h5,h6⟩:=hq;have hl:=yV (n:=2*(tm - t.ar.ts.1)+t.ar.ts.2) (b:=2*t.ar.ts.2) (by omega);refine av (qA Tryz.func114 rfl) rfl Tryz.ntmps114 (rs:=[.tmp 4]) Tryz.results114 (by simp) λw0=>?_;refine ae (xa 1 (aa aA (rs (xa 25 (aa aF (aa (aq (x:=.d (.pt _ _)) rfl) (aa (bZ rfl) (aa (af qY rfl) (aa (af q9 rfl) (aa (af AJ rfl) (aa (aj bo rfl rfl) ?_)))))))))));refine aa (dk rfl rfl xi) ?_;refine aa (cZ rfl rfl xi) (aa (aq (x:=.d (.pt _ _)) rfl) (aa (bZ rfl) (aa (af qY rfl) (aa (af q9 rfl) (aa (af uF rfl) (aa (aj bo rfl rfl) ?_))))));refine aa (bC rfl rfl xi) (aa (aq (x:=.d (.pt _ _)) rfl) (aa (bZ rfl) (aa (af qY rfl) (aa (af q9 rfl) (aa (af uF rfl) (aa (aj bo rfl rfl) ?_))))));refine aa (cZ rfl rfl xi) (aa aA (aa aA (rs (xa 4 (aa aF (aa aF ?_))))));refine aa (B5 rfl rfl (by omega) xi) (aa aA (rs (ae (xa 4 (aa aF (aa aF (aa (yo rfl rfl (by omega)) (aa (cM rfl rfl) (xc (ao rfl (λdB=>?_) (λdB=>?_)))))))))))
 ·
  (try simp only[nb,Xv]at dB)
  rw[Xu dB]at hl;refine xa 3 (aa aF ?_);refine aa (dk rfl rfl xi) (aa aA (rs (xa 2 (aa aF (aa aA (xc (ah ?_)))))));refine⟨_,cS,?_⟩;unfold IU;rw[<-hl];rfl
 ·
  (try simp only[nb,Xv]at dB)
  rw[Xr (by omega)]at hl;refine wO ?_;change Awp _ _ _ _ _;refine ae (xa 2 (aa aF (aa aA (xc (ah ?_)))));refine⟨_,cS,?_⟩;unfold IU;rw[<-hl];rfl
theorem L2(t:Tsk)(c:Int)(pr:Int × Int)(h:TskOk t)(hc:Bn t.g c=0)(hp:(0≤pr.1∧pr.1<t.ne)∧0≤pr.2∧pr.2<t.ne):PC qP 110 [.pt (tkC t) 0,.v (.int .i64 (c)),.agg (shC pr)] (.da [.v (.int .i64 (su t.ar (gZ t.g c) pr)),.v (.bool (dP 0 (su t.ar (gZ t.g c) pr) 60))]):=by
 obtain⟨hg,_,_⟩:=gW h.gr;obtain⟨c1,c2⟩:=Gb hc;have yO:=dg hg;obtain⟨Et,_⟩:=iL h.ck;have ho:=Hs h hc hp;have he:Dx t.ar (gZ t.g c) pr=(Dy t.ar (gZ t.g c) pr,0):=by unfold Dx;rw[Xr (λq=>q ho)]
 have hei:=VR t.ar (gZ t.g c) pr;refine aY (qA Tryz.func110 rfl) rfl Tryz.ntmps110 (rs:=[.tmp 6,.tmp 7]) Tryz.results110 (by simp) λw0 bQ cH iK=>?_;refine ae (xa 3 (aa (aP rfl (by exact .inr ⟨_,rfl⟩)) (aa aA (aa aA (rs (xa 17 (aa (aq (x:=.d (.pt _ _)) rfl) (aa (bZ rfl) (aa (af qY rfl) (aa (ax (ds:=[_,_,_,_,_,_,_,_,_,_,_]) po rfl rfl rfl) (aa (aq (x:=.d (.pt _ _)) rfl) (aa (bZ rfl) (aa (af qZ rfl) (aa (ax (ds:=[_,_,_,_,_]) oE rfl rfl rfl) (aa aF (aa (ak Du (.cons rfl (.cons rfl .nil)) rfl (qT t.g c hg c1 (by omega))) (aa (ax (ds:=[_,_]) oQ rfl rfl rfl) ?_)))))))))))))))));refine aa (ak ap5 (.cons rfl (.cons rfl (.cons rfl .nil))) rfl ((by have h:=NU t.ar (gZ t.g c) pr;rw[he]at h;exact h))) (aa (aq (x:=.d (.da _)) rfl) (aa (au rfl rfl) (aa (au rfl rfl) (aa aA (aa aA (rs (xa 4 (aa (aq (x:=.d (.pt _ _)) rfl) (aa aF (aa (ak NS (.cons rfl (.cons rfl .nil)) rfl (sG t _ Et (by omega) (by omega))) (aa aA (rs (xa 5 (aa aF (aa aF (aa (ak pO (.cons rfl (.cons rfl (.cons rfl .nil))) rfl (dA _ _ _)) (aa aA (aa aA (xc (ah ?_))))))))))))))))))));refine⟨_,gz,?_⟩;rfl
theorem MG(l:List Int)(n:Int):PC qP 138 [.sl 1 (l.map iC),.v (.int .i64 (n))] (.v (.int .i64 (idxOf (λx=>decide (n=x)) 0 l))):=by
 refine av (qA Tryz.func138 rfl) rfl Tryz.ntmps138 (rs:=[.tmp 4]) Tryz.results138 (by simp) λw0=>?_;refine ae (xa 1 (aa aA (rs (ae (xa 3 (aa (aq (x:=.d (.sl _ _)) rfl) (aa (cd iX rfl (by exact aV _ _)) (aa aF (xc (bm (t:=6) rfl (λMY=>?_)))))))))))
 (try simp only[Xo]at MY)
 refine az (bG [4,5,8,9,10,11,12,13,14,15,16,17,18] [] (α:=Nat) (λk=>[(8,T.i (k:Int))]) (λk=>[]) (λk=>k≤l.length∧idxOf (λx=>decide (n=x)) 0 l=idxOf (λx=>decide (n=x)) k (l.drop k)) (λk=>l.length - k) 0 ⟨XC _,rfl⟩ ?_ ?_)
 ·exact xh (ms:=[]) (by repeat (exact Out.refl _)) ⟨(by rfl),trivial⟩ trivial
 ·
  intro k ⟨hk,hh⟩;refine ae (xa 1 (aa (cM rfl rfl) (rs (ao rfl (λbV=>?_) (λbV=>?_)))))
  ·
   (try simp only[nb,Xv]at bV)
   have bH:k<l.length:=by omega
   have hx:=Xp bH;have hd:idxOf (λx=>decide (n=x)) k (l.drop k)=if decide (n=l[k])=true then (k:Int) else idxOf (λx=>decide (n=x)) (k+1) (l.drop (k+1)):=by rw[Yf bH];rfl
   generalize l[k]=x at *;refine wO ?_;change Awp _ _ _ _ _;refine ae (az (ae (xa 2 (aa aF (aa aA (rs (xa 6 (aa aF (aa (aq (x:=.d (.sl _ _)) rfl) (aa aF (aa (aJ gK rfl rfl (by omega) (cm (by omega) hx)) (aa (aj bo rfl rfl) (aa (fG rfl rfl) (xc (ao rfl (λeJ=>?_) (λeJ=>?_))))))))))))))))
   ·
    (try simp only[nb,Xv]at eJ)
    refine ae (xa 2 (aa aF (aa aA (xc (ah ?_)))));refine⟨_,cS,?_⟩;rw[hh,hd,Xu (by simpa using eJ)];rfl
   ·
    (try simp only[nb,Xv]at eJ)
    refine wO ?_;change Awp _ _ _ _ _;refine xa 2 ?_;refine aa (bC rfl rfl xi) (aa aF (rn ?_));refine⟨k+1,⟨by omega,by rw[hh,hd,Xr (by simpa using eJ)]⟩,by omega,?_⟩;exact xh (ms:=[]) (by repeat (first|exact Out.head rfl rfl|(refine Out.put ?_ rfl))) ⟨(by rfl),trivial⟩ trivial
  ·
   (try simp only[nb,Xv]at bV)
   refine bJ ?_;change Awp _ _ _ _ _;refine ae (xa 1 (aa aA (xc (ah ?_))));refine⟨_,cS,?_⟩;rw[hh,Yu (by omega)];rfl
theorem tI(l:List Int)(n:Int):PC qP 109 [.sl 1 (l.map iC),.v (.int .i64 (n))] (.v (.bool (l.any λx=>decide (n=x)))):=by
 refine av (qA Tryz.func109 rfl) rfl Tryz.ntmps109 (rs:=[.tmp 4]) Tryz.results109 (by simp) λw0=>?_;refine ae (xa 1 (aa aA (rs (xa 5 (aa (aq (x:=.d (.sl _ _)) rfl) (aa aF (aa (ak ap6 (.cons rfl (.cons rfl .nil)) rfl (MG _ _)) (aa (Hj rfl rfl) (aa aA (xc (ah ?_)))))))))));refine⟨_,cS,?_⟩;rw[<-yG];rfl
theorem C9(t:Tsk)(l:List Int):PC qP 64 [.pt (tkC t) 0,.sl 1 (l.map iC)] (.fn (.func 111) [.pt [.sl 1 (l.map iC)] 0,.pt [.pt (tkC t) 0] 0]):=by
 refine av (qA Tryz.func64 rfl) rfl Tryz.ntmps64 (rs:=[.tmp 4]) Tryz.results64 (by simp) λw0=>?_;refine ae (xa 3 (aa (aP rfl (by exact .inl rfl)) (aa (aP rfl (by exact .inl rfl)) (aa (aG (x:=.d (.v .nilFunc)) rfl) (rs (xa 2 (aa (jw (.cons rfl (.cons rfl .nil))) (aa (aG (x:=.d (.fn _ _)) rfl) (xc (ah ?_))))))))));refine⟨_,cS,?_⟩;rfl
def Fh(x:Int)(j:Nat):List (Int × Int):=(List.range j).map λr:Nat=>(x,(r:Int))
def OZ(l:List Int)(n i:Nat):List (Int × Int):=(l.take i).flatMap λx=>Fh x n
def mW(l:List Int)(n:Nat):List (Int × Int):=l.flatMap λx=>Fh x n
theorem vj(x:Int)(j:Nat):Fh x (j+1)=Fh x j++[(x,(j:Int))]:=by unfold Fh;rw[ZA,Yw];rfl
theorem B8{l:List Int}{n i:Nat}{x:Int}(h:l[i]?=some x):OZ l n (i+1)=OZ l n i++Fh x n:=by
 obtain⟨bH,hx⟩:=Xt.1 h;unfold OZ;rw[Yh bH,hx,List.flatMap_append];simp
theorem Qm(l:List Int)(n:Nat):OZ l n l.length=mW l n:=by unfold OZ mW;rw[YL]
theorem Hl(x:Int){j:Nat}:∀{n:Nat},j≤n->Fh x j <+: Fh x n
 | 0, h => by
   have:j=0:=by omega
   subst this;exact Zn
 | n+1,h=>by
  by_cases e:j=n+1
  ·subst e;exact Zn
  ·rw[vj];exact(Hl x (show j≤n by omega)).trans (Y7 _ _)
theorem Ql{l:List Int}{n i:Nat}{x:Int}(h:l[i]?=some x):OZ l n i++Fh x n <+: mW l n:=by
 obtain⟨bH,hx⟩:=Xt.1 h;rw[<-B8 h];unfold OZ mW
 conv=>rhs;rw[<-List.take_append_drop (i+1) l]
 rw[List.flatMap_append];exact Y7 _ _
theorem UC{l:List Int}{n i j:Nat}{x:Int}(h:l[i]?=some x)(hj:j<n):OZ l n i++Fh x j++[(x,(j:Int))] <+: mW l n:=by
 rw[Yr,<-vj];have h1:=Hl x (show j+1≤n by omega);obtain⟨t,ht⟩:=h1;refine List.IsPrefix.trans ?_ (Ql (n:=n) h);rw[<-ht,<-Yr];exact Y7 _ _
theorem Lz{l:List Int}{n:Nat}{y:Int × Int}(h:y∈mW l n):y.1∈l∧0≤y.2∧y.2<n:=by
 unfold mW at h;obtain⟨x,hx,h⟩:=List.mem_flatMap.1 h;unfold Fh at h;obtain⟨r,hr,rfl⟩:=X6.1 h;have:=YJ.1 hr;exact⟨hx,by simp only;omega,by simp only;omega⟩
theorem zS(l:List Int)(n:Nat):(mW l n).length=l.length*n:=by
 unfold mW
 induction l with
 | nil=>simp
 | cons x l ih=>
  rw[List.flatMap_cons,XI,ih,XH,Zf];unfold Fh;rw[Xo,Yx];omega
def jQ(t:Tsk)(y:Int × Int):List Int:=(Bo t.bf (y.1*t.ne+y.2).toNat).map vI
def VK(t:Tsk)(y:Int × Int):List D:=[.agg (shC y),.pt (D7 (jQ t y)) 0]
theorem Uf{l:List Nat}{m i:Nat}(h:i<m):(G5 l m)[i]?=some (D7 ((Bo l i).map vI)):=by
 unfold G5 Ew;rw[XF,XF,Y4 h];rfl
theorem UB{t:Tsk}(h:TskOk t){x:Int}{j:Nat}(h1:0≤x)(h2:x<t.ne)(hj:(j:Int)<t.ne):(0≤x*t.ne∧x*t.ne≤256)∧x*t.ne+(j:Int)<t.ne*t.ne:=by
 have a1:=h.n1;have a2:=h.n2;have m:=lX (a:=x) (b:=t.ne) (A:=16) (B:=16) (by omega) (by omega) (by omega) (by omega);have p:=X2 h1 (show 0≤t.ne by omega);have q:=Y8 (show x≤t.ne - 1 by omega) (show 0≤t.ne by omega);rw[Int.sub_mul]at q;omega
theorem Da(t:Tsk)(l:List Int)(h:TskOk t)(hl:∀x∈l,0≤x∧x<t.ne)(hll:l.length≤10000):PI qP 111 [] [.pt [.sl 1 (l.map iC)] 0,.pt [.pt (tkC t) 0] 0] ((VK t)) (mW l t.ne.toNat) true:=by
 have wY:=h.n1;have Bi:=h.n2;obtain⟨_,_,hm3⟩:=GO h;refine sC (qA Tryz.func111 rfl) rfl Tryz.ntmps111 rfl rfl λJ c l0 hJ hy AD qL=>?_;refine cG ?_;apply dC hJ
 ·
  intro c1 bQ cH;refine xa 3 (aa (aj pn rfl rfl) (aa (cd iX rfl (by exact aV _ _)) (aa aF (rn ?_))));exact⟨rfl,rfl⟩
 change iw _ _ _ _ _ _ _;refine Ap (t:=7) rfl (λMX=>?_)
 (try simp only[Xo]at MX)
 refine fo ?_;refine lD [5,6,9,10,11,12,13,14,15,16,17,18,19,20,21,22,23,24,25,26,27,28,29,30,31,32,33,34,35,36,37,38,39,40] [] (β:=Nat) (λi=>[(9,T.i (i:Int))]) (λi=>[]) (λi=>(true,OZ l t.ne.toNat i)) (λi=>i≤l.length) (λi=>l.length - i) 0 (XC _) rfl (λc1=>?_) ?_
 ·exact xh (ms:=[]) (by repeat (exact Out.refl _)) ⟨(by rfl),trivial⟩ trivial
 ·
  intro i hi;refine cG ?_;apply dC hJ
  ·
   intro c1 bQ cH;refine xa 1 (aa (cM rfl rfl) (rn ?_));exact⟨rfl,rfl⟩
  change iw _ _ _ _ _ _ _;refine cG ?_;refine gR rfl (λbW=>?_) (λbW=>?_)
  ·
   (try simp only[nb,Xv]at bW)
   have bH:i<l.length:=by omega
   obtain⟨x,hx⟩:∃x,l[i]?=some x:=⟨_,Xp bH⟩
   obtain⟨hx1,hx2⟩:=hl x (XA hx);refine gQ ?_;change iw _ _ _ _ _ _ _;refine cG ?_;refine fo ?_;refine cG ?_;apply dC hJ
   ·
    intro c1 bQ cH;refine xa 3 (aa (aJ gK rfl rfl (by omega) (cm (by omega) hx)) (aa (aj bo rfl rfl) (aa aA (rn ?_))));exact⟨rfl,rfl⟩
   change iw _ _ _ _ _ _ _;refine cG ?_;apply dC hJ
   ·
    intro c1 bQ cH;refine xa 5 (aa (aj lg rfl rfl) (aa (bZ rfl) (aa (af oh rfl) (aa (aj bo rfl rfl) (aa aF (rn ?_))))));exact⟨rfl,rfl⟩
   change iw _ _ _ _ _ _ _;refine fo ?_;refine lD [6,17,18,19,20,21,22,23,24,25,26,27,28,29,30,31,32,33,34,35,36,37,38,39] [] (β:=Nat) (λj=>[(17,T.i (j:Int))]) (λj=>[]) (λj=>(true,OZ l t.ne.toNat i++Fh x j)) (λj=>j≤t.ne.toNat) (λj=>t.ne.toNat - j) 0 (XC _) (by show (true,_++Fh x 0)=(true,_);simp[Fh]) (λc1=>?_) ?_
   ·exact xh (ms:=[]) (by repeat (exact Out.refl _)) ⟨(by rfl),trivial⟩ trivial
   ·
    intro j hj;refine cG ?_;apply dC hJ
    ·
     intro c1 bQ cH;refine xa 1 (aa (cM rfl rfl) (rn ?_));exact⟨rfl,rfl⟩
    change iw _ _ _ _ _ _ _;refine cG ?_;refine gR rfl (λeJ=>?_) (λeJ=>?_)
    ·
     (try simp only[nb,Xv]at eJ)
     have hlj:j<t.ne.toNat:=by omega
     have Au:=UC (n:=t.ne.toNat) hx hlj;obtain⟨⟨hq1,hq2⟩,hq3⟩:=UB h (j:=j) hx1 hx2 (by omega);have hsm:(G5 t.bf (PD t))[(x*t.ne+(j:Int)).toNat]?=some (D7 (jQ t (x,(j:Int)))):=Uf (by omega);refine gQ ?_;change iw _ _ _ _ _ _ _;refine cG ?_;refine fo ?_;refine cG ?_;apply dC hJ
     ·
      intro c1 bQ cH;refine xa 2 (aa aF (aa aA (rn ?_)));exact⟨rfl,rfl⟩
     change iw _ _ _ _ _ _ _;refine cG ?_;refine Cw 17 mixed hJ (by kernel_rfl) (λc1 bQ=>?_);refine aa (aq (x:=.d (.fn _ _)) rfl) (aa aF (aa aF ?_));refine aa (qk (cs:=[_,_]) kF Bt rfl (.cons rfl (by exact .inl rfl) (.cons rfl (by exact .inl rfl) .nil)) ⟨⟨rfl,by decide⟩,⟨rfl,by decide⟩,trivial⟩ rfl) (aa (aj lg rfl rfl) (aa (bZ rfl) (aa (af AI rfl) (aa (aj TX rfl rfl) (aa aF (aa (aj lg rfl rfl) (aa (bZ rfl) (aa (af oh rfl) (aa (aj bo rfl rfl) ?_)))))))));refine aa (cZ rfl rfl xi) (aa aF ?_);refine aa (bC rfl rfl xi) (aa (aJ Uh rfl rfl (by omega) (hsm)) (aw (pJ (x:=(x,(j:Int))) hy AD rfl (.cons rfl (.cons rfl .nil)) Au rfl (λyb=>?_))));refine en hJ rfl (λc1 _ _ _ h=>by exact aN rfl ((bX rfl)) h) ?_;refine qF ?_;change iw _ _ _ _ _ _ _;refine gR rfl (λl6=>?_) (λl6=>?_)
     ·
      (try simp only[nb,Xv]at l6)
      have HO:yb=false:=by cases yb<;>first|rfl|(exfalso;simp_all;done)
      refine Ao ?_;exact⟨.inl rfl,λh=>by rw[HO]at h;cases h⟩
     ·
      (try simp only[nb,Xv]at l6)
      have HO:yb=true:=by cases yb<;>first|rfl|(exfalso;simp_all;done)
      refine gQ ?_;change iw _ _ _ _ _ _ _;apply dC hJ
      ·
       intro c1 bQ cH;refine xa 2 ?_;refine aa (bC rfl rfl xi) (aa aF (rn ?_));exact⟨rfl,rfl⟩
      refine⟨j+1,by omega,by omega,by rw[HO,vj,Yr],λc1=>?_⟩;exact xh (ms:=[]) (by repeat (first|exact Out.head rfl rfl|(refine Out.put ?_ rfl))) ⟨(by rfl),trivial⟩ trivial
    ·
     (try simp only[nb,Xv]at eJ)
     have M4:j=t.ne.toNat:=by omega
     refine m6 ?_;change iw _ _ _ _ _ _ _;apply dC hJ
     ·
      intro c1 bQ cH;refine xa 2 ?_;refine aa (bC rfl rfl xi) (aa aF (rn ?_));exact⟨rfl,rfl⟩
     refine⟨i+1,by omega,by omega,by rw[M4,B8 hx],λc1=>?_⟩;exact xh (ms:=[]) (by repeat (first|exact Out.head rfl rfl|(refine Out.put ?_ rfl)|(refine Out.sN ?_ rfl rfl rfl))) ⟨(by rfl),trivial⟩ trivial
  ·
   (try simp only[nb,Xv]at bW)
   have n7:i=l.length:=by omega
   refine m6 ?_;exact⟨.inr rfl,λ_=>by rw[n7,Qm]⟩
theorem H2(a b c d:Int)(h1 : -1000000000000≤a∧a≤1000000000000)(h2 : -1000000000000≤b∧b≤1000000000000)(h3 : -1000000000000≤c∧c≤1000000000000)(h4 : -1000000000000≤d∧d≤1000000000000):PC qP 38 [.agg [.v (.int .i64 (a)),.v (.int .i64 (b))],.agg [.v (.int .i64 (c)),.v (.int .i64 (d))]] (.agg [.v (.int .i64 (a+c)),.v (.int .i64 (b+d))]):=by
 refine av (qA Tryz.func38 rfl) rfl Tryz.ntmps38 (rs:=[.cell 4 108]) Tryz.results38 (by simp) λw0=>?_;refine ae (xa 2 (aa (aP rfl (by exact .inr ⟨_,rfl⟩)) (aa (aP rfl (by exact .inr ⟨_,rfl⟩)) (aw (aD jW rfl rfl rfl (ai (xq (xa 11 (aa (af rj rfl) (aa (aj bo rfl rfl) (aa (af rj rfl) (aa (aj bo rfl rfl) ?_))))))))))));refine aa (bC rfl rfl xi) (aa (af ri rfl) (aa (aj bo rfl rfl) (aa (af ri rfl) (aa (aj bo rfl rfl) ?_))));refine aa (bC rfl rfl xi) ?_;refine aa (bz (cs:=[_,_]) Sp jW rfl (.cons rfl (by exact .inl rfl) (.cons rfl (by exact .inl rfl) .nil)) ⟨⟨rfl,by decide⟩,⟨rfl,by decide⟩,trivial⟩ rfl) (aw (ay fW rfl rfl (by exact .inr ⟨_,rfl⟩) rfl rfl (by decide) rfl (ai ?_)));change Awp _ _ _ _ _;refine ah ?_;refine⟨_,(.cons (.dn rfl rfl fW rfl) .nil),?_⟩;rfl
theorem yT(re im:Int)(h1 : -4094≤re∧re≤4094)(h2 : -4094≤im∧im≤4094):PC qP 66 [cx re im] (.agg [.v (.int .i64 (re)),.v (.int .i64 (im))]):=by
 refine av (qA Tryz.func66 rfl) rfl Tryz.ntmps66 (rs:=[.cell 2 108]) Tryz.results66 (by simp) λw0=>?_;refine ae (xa 0 (aw (aD jW rfl rfl rfl (ai (xq (xa 7 (aa aF (aa (Fa rfl) (aa (iH ik l4 rfl (AQ (wH (by omega) (by omega)))) (aa aF (aa (Fc rfl) (aa (iH ik l4 rfl (AQ (wH (by omega) (by omega)))) ?_))))))))))));refine aa (bz (cs:=[_,_]) Sp jW rfl (.cons rfl (by exact .inl rfl) (.cons rfl (by exact .inl rfl) .nil)) ⟨⟨rfl,by decide⟩,⟨rfl,by decide⟩,trivial⟩ rfl) (aw (ay fW rfl rfl (by exact .inr ⟨_,rfl⟩) rfl rfl (by decide) rfl (ai ?_)));change Awp _ _ _ _ _;refine ah ?_;refine⟨_,(.cons (.dn rfl rfl fW rfl) .nil),?_⟩;rfl
def cz(re im:Int):D:=.v (.complex .f64 (FloatKind.f64.nearest re) (FloatKind.f64.nearest im))
theorem yU(re im:Int):PC qP 62 [.agg [.v (.int .i64 (re)),.v (.int .i64 (im))]] (cz re im):=by
 refine av (qA Tryz.func62 rfl) rfl Tryz.ntmps62 (rs:=[.tmp 2]) Tryz.results62 (by simp) λw0=>?_;refine ae (xa 2 (aa (aP rfl (by exact .inr ⟨_,rfl⟩)) (aa aA (rs (xa 8 (aa (af rj rfl) (aa (aj bo rfl rfl) (aa (lW l4 sQ rfl) (aa (af ri rfl) (aa (aj bo rfl rfl) (aa (lW l4 sQ rfl) (aa (yp rfl rfl) (aa aA (xc (ah ?_)))))))))))))));refine⟨_,cS,?_⟩;rfl
def xz(l:List Int)(n:Int):Bool:=l.any λx=>decide (n=x)
theorem uo{t:Tsk}(h:TskOk t)(y:Int × Int)(k:Nat):(-4094≤Bc (jQ t y) k∧Bc (jQ t y) k≤4094)∧(-4094≤Bg (jQ t y) k∧Bg (jQ t y) k≤4094):=Ud (R6 (Oa h.wh _)) k
theorem OG{S:List Int}{k:Nat}(hk:k<61):(D7 S)[k]?=some (cx (Bc S k) (Bg S k)):=by unfold D7;rw[XF,Y4 hk];rfl
def EE(t:Tsk)(c:Int)(dd:List Int)(s:(Int × Int) × Int)(y:Int × Int):(Int × Int) × Int:=
 if (xz dd y.1||xz dd y.2)=true then s
 else if dP 0 (su t.ar (gZ t.g c) y) 60=true then ((s.1.1+Bc (jQ t y) (su t.ar (gZ t.g c) y).toNat,s.1.2+Bg (jQ t y) (su t.ar (gZ t.g c) y).toNat),s.2+1)
 else s
def lN(t:Tsk)(c:Int)(dd:List Int)(l:List (Int × Int)):(Int × Int) × Int:=l.foldl (EE t c dd) ((0,0),0)
theorem Bx{t:Tsk}{c:Int}{dd:List Int}{l:List (Int × Int)}{k:Nat}{y:Int × Int}(h:l[k]?=some y):lN t c dd (l.take (k+1))=EE t c dd (lN t c dd (l.take k)) y:=by
 obtain⟨bH,hx⟩:=Xt.1 h;unfold lN;rw[Yh bH,hx,List.foldl_append];rfl
theorem EF{t:Tsk}(h:TskOk t){c:Int}{dd:List Int}{l:List (Int × Int)}:∀k:Nat,k≤l.length->(-(4094*(k:Int))≤(lN t c dd (l.take k)).1.1∧(lN t c dd (l.take k)).1.1≤4094*(k:Int))∧(-(4094*(k:Int))≤(lN t c dd (l.take k)).1.2∧(lN t c dd (l.take k)).1.2≤4094*(k:Int))∧0≤(lN t c dd (l.take k)).2∧(lN t c dd (l.take k)).2≤(k:Int)
 | 0,_=>by
  have e:lN t c dd (l.take 0)=((0,0),0):=rfl;rw[e];simp only;omega
 | k+1,hk=>by
  have ih:=EF h (c:=c) (dd:=dd) (l:=l) k (by omega);have hy:l[k]?=some l[k]:=Xp (by omega);have hb:=uo h l[k] (su t.ar (gZ t.g c) l[k]).toNat;rw[Bx hy];unfold EE
  split
  ·omega
  ·split
   ·simp only;omega
   ·omega
theorem GL(t:Tsk)(c:Int)(fs dd:List Int)(h:TskOk t)(hc:Bn t.g c=0)(hf:∀x∈fs,0≤x∧x<t.ne)(CV:fs.length≤100):PC qP 61 [.pt (tkC t) 0,.v (.int .i64 (c)),.sl 1 (fs.map iC),.sl 1 (dd.map iC)] (.da [.agg [.v (.int .i64 ((lN t c dd (mW fs t.ne.toNat)).1.1)),.v (.int .i64 ((lN t c dd (mW fs t.ne.toNat)).1.2))],.v (.int .i64 ((lN t c dd (mW fs t.ne.toNat)).2))]):=by
 have wY:=h.n1;have Bi:=h.n2
 have hlen:(mW fs t.ne.toNat).length≤1600:=by
  rw[zS];have:=Nat.mul_le_mul CV (show t.ne.toNat≤16 by omega);omega
 refine aY (qA Tryz.func61 rfl) rfl Tryz.ntmps61 (rs:=[.cell 8 108,.tmp 9]) Tryz.results61 (by simp) λw0 bQ cH iK=>?_;refine ae (xa 3 (aa (aP rfl (by exact .inl rfl)) (aa (aP rfl (by exact .inl rfl)) (aa (aP rfl (by exact .inl rfl)) (aw (aD jW rfl rfl rfl (aN rfl aA (ai (xq (xa 0 (aw (aD jW rfl rfl rfl (ai (xq (xa 0 (aw (aD Br rfl rfl rfl (ay bo rfl rfl (by exact .inl rfl) rfl rfl (by decide) rfl (ai (xq (ae (xa 3 (aa (aj lg rfl rfl) (aa (aq (x:=.d (.sl _ _)) rfl) (aa (ak am6 (.cons rfl (.cons rfl .nil)) rfl (C9 t fs)) (xc (az ?_)))))))))))))))))))))))))));refine nE (α:=Int × Int) (β:=Nat) (n:=51) (enc:=(VK t)) (items:=mW fs t.ne.toNat) 1000 [(4,.d (.pt [.pt (tkC t) 0] 0)),(5,.d (.pt [.v (.int .i64 (c))] 0)),(7,.d (.pt [.sl 1 (dd.map iC)] 0)),(8,.ref 8 0),(10,.ref 10 0),(11,.ref 11 0),(18,.d (.fn (.func 111) [.pt [.sl 1 (fs.map iC)] 0,.pt [.pt (tkC t) 0] 0]))] (λx=>[(8,.box [.v (.int .i64 (0)),.v (.int .i64 (0))]),(10,.box [.v (.int .i64 ((lN t c dd ((mW fs t.ne.toNat).take x)).1.1)),.v (.int .i64 ((lN t c dd ((mW fs t.ne.toNat).take x)).1.2))]),(11,.box [.v (.int .i64 ((lN t c dd ((mW fs t.ne.toNat).take x)).2))])]) (λk x=>x=k) (λe x=>False) 0 cH ?_ (.inr ⟨rfl,rfl⟩) Tt (Da t fs h hf (by omega)) rfl (λ_=>rfl) rfl (λx=>qV (gS (og (by repeat (first|exact trivial|refine⟨.v _,?_⟩))) (gS (og (by repeat (first|exact trivial|refine⟨.v _,?_⟩))) (gS (og (by repeat (first|exact trivial|refine⟨.v _,?_⟩))) uE)))) (λ_=>rfl) rfl (λh=>by cases h) ?_ ?_ ?_
 ·exact vD (λk=>k) _ _ rfl ⟨rfl,rfl,rfl,rfl,rfl,rfl,rfl,trivial⟩ ⟨rfl,rfl,rfl,trivial⟩ rfl (λk b h=>by rw[iK k]at h;cases h)
 ·
  intro w1 tX k x y hI hy;subst hI;have hmy:=Lz (XA hy);obtain⟨hy0,hy3,hy4⟩:=hmy;obtain⟨hy1,hy2⟩:=hf _ hy0;have CC:x<(mW fs t.ne.toNat).length:=(Xt.1 hy).1;obtain⟨⟨b1,b2⟩,⟨b3,b4⟩,b5,b6⟩:=EF h (c:=c) (dd:=dd) (l:=mW fs t.ne.toNat) x (by omega);obtain⟨hre,qK⟩:=uo h y (su t.ar (gZ t.g c) y).toNat;have dU:=Bx (t:=t) (c:=c) (dd:=dd) hy;unfold EE at dU;refine ae (xa 0 (aw (dF Bt rfl oQ rfl rfl (by exact .inr ⟨_,rfl⟩) rfl rfl (ai ?_))));change Awp _ _ _ _ _;refine xa 1 (aa (aG (x:=.d (.pt _ _)) rfl) (rn ?_));refine⟨rfl,λw2 tW=>?_⟩;refine az (ae (ae (xa 10 (aa (aj pn rfl rfl) (aa (cj kF rfl rfl (by omega) (by omega)) (aa (aj bo rfl rfl) (aa (ak Tu (.cons rfl (.cons rfl .nil)) rfl (tI dd y.1)) (aa aF (aE rfl rfl (λhG=>(aj pn rfl rfl)) ?_)))))))));refine aE rfl rfl (λhG=>(cj kF rfl rfl (by (have iR:=T.cP (a:=_) hG.1;(try simp only[nb,Xv]at iR);omega)) (by (have iR:=T.cP (a:=_) hG.1;(try simp only[nb,Xv]at iR);omega)))) (aE rfl rfl (λhG=>(aj bo rfl rfl)) (aE rfl rfl (λhG=>(ak Tu (.cons rfl (.cons rfl .nil)) rfl (tI dd y.2))) (aT rfl rfl rfl rfl rfl rfl ?_)));refine xc (ao rfl (λl6=>?_) (λl6=>?_))
  ·
   (try simp only[nb,Xv]at l6)
   have hd:(xz dd y.1||xz dd y.2)=true:=by unfold xz;simpa using l6
   rw[Xu hd]at dU;refine bJ (.inl ⟨rfl,x+1,rfl,?_⟩);exact jA [] _ tW rfl ⟨(by rfl),(by (show Site.box _=Site.box _;(rw[dU];done))),(by (show Site.box _=Site.box _;(rw[dU];done))),trivial⟩ rfl
  ·
   (try simp only[nb,Xv]at l6)
   have hd:¬(xz dd y.1||xz dd y.2)=true:=by
    intro q;rw[X3]at q;unfold xz at q
    rcases q with q|q
    ·rw[l6.1]at q;cases q
    ·rw[l6.2]at q;cases q
   rw[Xr hd]at dU;refine wO ?_;change Awp _ _ _ _ _;refine ae (xa 9 (aa (aj lg rfl rfl) (aa (aj bo rfl rfl) (aa (ax (ds:=[_,_]) oQ rfl rfl rfl) (aa (ak aq9 (.cons rfl (.cons rfl (.cons rfl .nil))) rfl (L2 t c y h hc ⟨⟨hy1,hy2⟩,hy3,by omega⟩)) (aa (aq (x:=.d (.da _)) rfl) (aa (au rfl rfl) (aa (au rfl rfl) (aa aA (aa aA (rs (xa 1 (aa aF (xc (ao rfl (λoM=>?_) (λoM=>?_))))))))))))))))
   ·
    (try simp only[nb,Xv]at oM)
    rw[Xu oM]at dU;have n7:=cY.1 oM;refine kE 10 1 [8,9] mixed (by kernel_rfl) ?_;refine aa (aX (ds:=[_,_]) fW rfl rfl rfl rfl) (aa (aq (x:=.d (.pt _ _)) rfl) (aa aF (aa (bZ rfl) (aa (cj TE rfl rfl (by omega) (by omega)) ?_))));refine aa (aj KE rfl (by rw[XK,YA];exact OG (S:=jQ t y) (by omega))) (aa (ak am5 (.cons rfl .nil) rfl (yT _ _ hre qK)) (aa (ak an2 (.cons rfl (.cons rfl .nil)) rfl (H2 _ _ _ _ (by omega) (by omega) (by omega) (by omega))) (aa (aQ bo rfl rfl rfl) ?_)));refine aa (bC rfl rfl xi) (aw (vE (Ib fW rfl rfl (by exact .inr ⟨_,rfl⟩) rfl rfl (by exact Nat.le_of_ble_eq_true rfl) rfl) ?_ ?_))
    ·refine gu rfl rfl rfl (JL (aQ bo rfl rfl rfl)) ?_
     first|refine gu rfl rfl rfl (JL (bC rfl rfl xi)) ?_
     exact wC
    refine qC ?_;refine ay bo rfl rfl (by exact .inl rfl) rfl rfl (by simp;done) rfl (ai (.inl ⟨rfl,x+1,rfl,?_⟩));exact jA [] _ tW rfl ⟨(by rfl),(by (show Site.box _=Site.box _;(rw[dU];rfl))),(by (show Site.box _=Site.box _;(rw[dU];rfl))),trivial⟩ rfl
   ·
    (try simp only[nb,Xv]at oM)
    rw[Xr (by rw[oM];decide)]at dU;refine wO (.inl ⟨rfl,x+1,rfl,?_⟩);exact jA [] _ tW rfl ⟨(by rfl),(by (show Site.box _=Site.box _;(rw[dU];done))),(by (show Site.box _=Site.box _;(rw[dU];done))),trivial⟩ rfl
 ·
  intro x hI;have W4:x=(mW fs t.ne.toNat).length:=hI;subst W4;rw[YL]at *;change Awp _ _ _ _ _;refine ae (iN 4 [none,none,some 8,none] mixed (by kernel_rfl) ?_);refine dG rfl (aX (ds:=[_,_]) fW rfl rfl rfl rfl) ?_;refine dG rfl (aQ bo rfl rfl rfl) ?_;refine tv (k:=8) rfl rfl (by rfl) (qx fW rfl rfl (by exact .inr ⟨_,rfl⟩) rfl rfl (by decide) rfl) ?_;refine dG rfl aA ?_;refine qd (ai ?_);change Awp _ _ _ _ _;refine ah ?_;refine⟨_,(.cons (.dn rfl rfl fW rfl) cS),?_⟩;rfl
 ·
  exact λe x h=>h.elim
def NC(t:Tsk):List (Int × Int):=mW (gY t.ne.toNat) t.ne.toNat
def vlI(t:Tsk)(c:Int):(Int × Int) × Int:=lN t c [] (NC t)
theorem A5{t:Tsk}(h:TskOk t):(∀x∈gY t.ne.toNat,0≤x∧x<t.ne)∧(gY t.ne.toNat).length≤16:=by
 have h1:=h.n1;have h2:=h.n2;refine⟨λx hx=>?_,by rw[rQ];omega⟩;have:=Iq hx;omega
theorem Iz(t:Tsk)(c:Int)(h:TskOk t)(hc:Bn t.g c=0):PC qP 25 [.agg (tskC t),.v (.int .i64 (c))] (.da [cz (vlI t c).1.1 (vlI t c).1.2,.v (.int .i64 ((vlI t c).2)),.v (.int .i64 (0))]):=by
 have wY:=h.n1;have Bi:=h.n2;obtain⟨WZ,ha2⟩:=A5 h;refine aY (qA Tryz.func25 rfl) rfl Tryz.ntmps25 (rs:=[.tmp 4,.tmp 5,.tmp 6]) Tryz.results25 (by simp) λw0 bQ cH iK=>?_;refine ae (xa 4 (aa (aP rfl (by exact .inr ⟨_,rfl⟩)) (aa aA (aa aA (aa aA (rs (xa 8 (aa (ax kJ rfl rfl rfl) (aa aF (aa (ak am9 (.cons rfl (.cons rfl .nil)) rfl ((by have h:=vq t c h;rw[hc]at h;exact h))) (aa (aq (x:=.d (.da _)) rfl) (aa (au rfl rfl) (aa (au rfl rfl) (aa (aG (x:=.d (.pt _ _)) rfl) (aa aA (rs (ae (xa 2 (aa aF (aa (bS rfl rfl) (xc (ao rfl (λbV=>?_) (λbV=>?_)))))))))))))))))))))))
 ·
  simp at bV
 ·
  (try simp only[nb,Xv]at bV)
  refine wO ?_;change Awp _ _ _ _ _;refine ae (xa 8 (aa (aq (x:=.d (.pt _ _)) rfl) (aa aF (aa (aq (x:=.d (.pt _ _)) rfl) (aa (ak VL (.cons rfl .nil) rfl (OH t wY Bi)) (aa (ak am8 (.cons rfl (.cons rfl (.cons rfl (.cons rfl .nil)))) rfl (GL t c (gY t.ne.toNat) [] h hc WZ (by omega))) (aa (aq (x:=.d (.da _)) rfl) (aa (au rfl rfl) (aa (au rfl rfl) (aw (dF jW rfl fW rfl rfl (by exact .inr ⟨_,rfl⟩) rfl rfl (aN rfl aA (ai (xq (xa 6 (aa (ax (ds:=[_,_]) fW rfl rfl rfl) (aa (ak am7 (.cons rfl .nil) rfl (yU _ _)) (aa aF (aa aA (aa aA (aa aA (xc (ah ?_)))))))))))))))))))))));refine⟨_,xk3,?_⟩;rfl
end
end Go.Proofs.YthcfokccjljnpaaGreat.Am.M
