/- Closed facts of the program's types and functions. Conditions: none. -/
import Derived.Test.YtphlaicnmmglhaaGreatProg
import Derived.Test.YtphlaicnmmglhaaGreatAmD
import Derived.ChangeKeysEq
set_option linter.unusedVariables false
set_option linter.unusedSimpArgs false
namespace Go.Proofs.YtphlaicnmmglhaaGreat.Am
open Go
theorem mixed : Tryz.prog.follows .mixedOrders = true := by kernel_rfl
theorem en20 : enB Tryz.prog 20 = true := by kernel_rfl
theorem en26 : enB Tryz.prog 26 = true := by kernel_rfl
theorem en31 : enB Tryz.prog 31 = true := by kernel_rfl
theorem en37 : enB Tryz.prog 37 = true := by kernel_rfl
theorem en38 : enB Tryz.prog 38 = true := by kernel_rfl
theorem en42 : enB Tryz.prog 42 = true := by kernel_rfl
theorem en60 : enB Tryz.prog 60 = true := by kernel_rfl
theorem en62 : enB Tryz.prog 62 = true := by kernel_rfl
theorem en73 : enB Tryz.prog 73 = true := by kernel_rfl
theorem en75 : enB Tryz.prog 75 = true := by kernel_rfl
theorem en77 : enB Tryz.prog 77 = true := by kernel_rfl
theorem en78 : enB Tryz.prog 78 = true := by kernel_rfl
theorem en79 : enB Tryz.prog 79 = true := by kernel_rfl
theorem en80 : enB Tryz.prog 80 = true := by kernel_rfl
theorem en81 : enB Tryz.prog 81 = true := by kernel_rfl
theorem en85 : enB Tryz.prog 85 = true := by kernel_rfl
theorem en86 : enB Tryz.prog 86 = true := by kernel_rfl
theorem en87 : enB Tryz.prog 87 = true := by kernel_rfl
theorem en88 : enB Tryz.prog 88 = true := by kernel_rfl
theorem en89 : enB Tryz.prog 89 = true := by kernel_rfl
theorem en90 : enB Tryz.prog 90 = true := by kernel_rfl
theorem en91 : enB Tryz.prog 91 = true := by kernel_rfl
theorem en92 : enB Tryz.prog 92 = true := by kernel_rfl
theorem en95 : enB Tryz.prog 95 = true := by kernel_rfl
theorem en96 : enB Tryz.prog 96 = true := by kernel_rfl
theorem en97 : enB Tryz.prog 97 = true := by kernel_rfl
theorem en102 : enB Tryz.prog 102 = true := by kernel_rfl
theorem en104 : enB Tryz.prog 104 = true := by kernel_rfl
theorem en109 : enB Tryz.prog 109 = true := by kernel_rfl
theorem en112 : enB Tryz.prog 112 = true := by kernel_rfl
theorem en113 : enB Tryz.prog 113 = true := by kernel_rfl
theorem en114 : enB Tryz.prog 114 = true := by kernel_rfl
theorem en122 : enB Tryz.prog 122 = true := by kernel_rfl
theorem en124 : enB Tryz.prog 124 = true := by kernel_rfl
theorem en127 : enB Tryz.prog 127 = true := by kernel_rfl
theorem en128 : enB Tryz.prog 128 = true := by kernel_rfl
theorem en130 : enB Tryz.prog 130 = true := by kernel_rfl
theorem en131 : enB Tryz.prog 131 = true := by kernel_rfl
theorem en132 : enB Tryz.prog 132 = true := by kernel_rfl
theorem en141 : enB Tryz.prog 141 = true := by kernel_rfl
theorem en142 : enB Tryz.prog 142 = true := by kernel_rfl
theorem en143 : enB Tryz.prog 143 = true := by kernel_rfl
theorem en144 : enB Tryz.prog 144 = true := by kernel_rfl
theorem en145 : enB Tryz.prog 145 = true := by kernel_rfl
theorem en146 : enB Tryz.prog 146 = true := by kernel_rfl
theorem en147 : enB Tryz.prog 147 = true := by kernel_rfl
theorem en148 : enB Tryz.prog 148 = true := by kernel_rfl
theorem en149 : enB Tryz.prog 149 = true := by kernel_rfl
theorem en150 : enB Tryz.prog 150 = true := by kernel_rfl
theorem en151 : enB Tryz.prog 151 = true := by kernel_rfl
theorem en152 : enB Tryz.prog 152 = true := by kernel_rfl
theorem en153 : enB Tryz.prog 153 = true := by kernel_rfl
theorem en154 : enB Tryz.prog 154 = true := by kernel_rfl
theorem en155 : enB Tryz.prog 155 = true := by kernel_rfl
theorem en156 : enB Tryz.prog 156 = true := by kernel_rfl
theorem en157 : enB Tryz.prog 157 = true := by kernel_rfl
theorem en158 : enB Tryz.prog 158 = true := by kernel_rfl
theorem en161 : enB Tryz.prog 161 = true := by kernel_rfl
theorem en162 : enB Tryz.prog 162 = true := by kernel_rfl
theorem en163 : enB Tryz.prog 163 = true := by kernel_rfl
theorem en164 : enB Tryz.prog 164 = true := by kernel_rfl
theorem en165 : enB Tryz.prog 165 = true := by kernel_rfl
theorem en166 : enB Tryz.prog 166 = true := by kernel_rfl
theorem en167 : enB Tryz.prog 167 = true := by kernel_rfl
theorem en168 : enB Tryz.prog 168 = true := by kernel_rfl
theorem en170 : enB Tryz.prog 170 = true := by kernel_rfl
theorem en171 : enB Tryz.prog 171 = true := by kernel_rfl
theorem en173 : enB Tryz.prog 173 = true := by kernel_rfl
theorem en178 : enB Tryz.prog 178 = true := by kernel_rfl
theorem en180 : enB Tryz.prog 180 = true := by kernel_rfl
theorem en181 : enB Tryz.prog 181 = true := by kernel_rfl
theorem en183 : enB Tryz.prog 183 = true := by kernel_rfl
theorem en184 : enB Tryz.prog 184 = true := by kernel_rfl
theorem en185 : enB Tryz.prog 185 = true := by kernel_rfl
theorem en186 : enB Tryz.prog 186 = true := by kernel_rfl
theorem en187 : enB Tryz.prog 187 = true := by kernel_rfl
theorem en188 : enB Tryz.prog 188 = true := by kernel_rfl
theorem en189 : enB Tryz.prog 189 = true := by kernel_rfl
theorem en191 : enB Tryz.prog 191 = true := by kernel_rfl
theorem en192 : enB Tryz.prog 192 = true := by kernel_rfl
theorem en193 : enB Tryz.prog 193 = true := by kernel_rfl
theorem en195 : enB Tryz.prog 195 = true := by kernel_rfl
theorem en216 : enB Tryz.prog 216 = true := by kernel_rfl
theorem en217 : enB Tryz.prog 217 = true := by kernel_rfl
theorem en218 : enB Tryz.prog 218 = true := by kernel_rfl
theorem en219 : enB Tryz.prog 219 = true := by kernel_rfl
theorem en220 : enB Tryz.prog 220 = true := by kernel_rfl
theorem en221 : enB Tryz.prog 221 = true := by kernel_rfl
theorem en222 : enB Tryz.prog 222 = true := by kernel_rfl
theorem en223 : enB Tryz.prog 223 = true := by kernel_rfl
theorem en224 : enB Tryz.prog 224 = true := by kernel_rfl
theorem en225 : enB Tryz.prog 225 = true := by kernel_rfl
theorem en226 : enB Tryz.prog 226 = true := by kernel_rfl
theorem en227 : enB Tryz.prog 227 = true := by kernel_rfl
theorem en228 : enB Tryz.prog 228 = true := by kernel_rfl
theorem en229 : enB Tryz.prog 229 = true := by kernel_rfl
theorem en230 : enB Tryz.prog 230 = true := by kernel_rfl
theorem en231 : enB Tryz.prog 231 = true := by kernel_rfl
theorem en232 : enB Tryz.prog 232 = true := by kernel_rfl
theorem en234 : enB Tryz.prog 234 = true := by kernel_rfl
theorem en236 : enB Tryz.prog 236 = true := by kernel_rfl
theorem en243 : enB Tryz.prog 243 = true := by kernel_rfl
theorem en245 : enB Tryz.prog 245 = true := by kernel_rfl
theorem en246 : enB Tryz.prog 246 = true := by kernel_rfl
theorem en247 : enB Tryz.prog 247 = true := by kernel_rfl
theorem en256 : enB Tryz.prog 256 = true := by kernel_rfl
theorem en258 : enB Tryz.prog 258 = true := by kernel_rfl
theorem en259 : enB Tryz.prog 259 = true := by kernel_rfl
theorem en260 : enB Tryz.prog 260 = true := by kernel_rfl
theorem en261 : enB Tryz.prog 261 = true := by kernel_rfl
theorem en262 : enB Tryz.prog 262 = true := by kernel_rfl
theorem en263 : enB Tryz.prog 263 = true := by kernel_rfl
theorem en264 : enB Tryz.prog 264 = true := by kernel_rfl
theorem en267 : enB Tryz.prog 267 = true := by kernel_rfl
theorem en268 : enB Tryz.prog 268 = true := by kernel_rfl
theorem en269 : enB Tryz.prog 269 = true := by kernel_rfl
theorem en270 : enB Tryz.prog 270 = true := by kernel_rfl
theorem en274 : enB Tryz.prog 274 = true := by kernel_rfl
theorem en275 : enB Tryz.prog 275 = true := by kernel_rfl
theorem en277 : enB Tryz.prog 277 = true := by kernel_rfl
theorem en278 : enB Tryz.prog 278 = true := by kernel_rfl
theorem en279 : enB Tryz.prog 279 = true := by kernel_rfl
theorem en280 : enB Tryz.prog 280 = true := by kernel_rfl
theorem en281 : enB Tryz.prog 281 = true := by kernel_rfl
theorem en282 : enB Tryz.prog 282 = true := by kernel_rfl
theorem en283 : enB Tryz.prog 283 = true := by kernel_rfl
theorem en289 : enB Tryz.prog 289 = true := by kernel_rfl
theorem en290 : enB Tryz.prog 290 = true := by kernel_rfl
theorem en291 : enB Tryz.prog 291 = true := by kernel_rfl
theorem en292 : enB Tryz.prog 292 = true := by kernel_rfl
theorem en293 : enB Tryz.prog 293 = true := by kernel_rfl
theorem en294 : enB Tryz.prog 294 = true := by kernel_rfl
theorem en295 : enB Tryz.prog 295 = true := by kernel_rfl
theorem en296 : enB Tryz.prog 296 = true := by kernel_rfl
theorem en297 : enB Tryz.prog 297 = true := by kernel_rfl
theorem en301 : enB Tryz.prog 301 = true := by kernel_rfl
theorem en302 : enB Tryz.prog 302 = true := by kernel_rfl
theorem en303 : enB Tryz.prog 303 = true := by kernel_rfl
theorem en304 : enB Tryz.prog 304 = true := by kernel_rfl
theorem en309 : enB Tryz.prog 309 = true := by kernel_rfl
theorem en310 : enB Tryz.prog 310 = true := by kernel_rfl
theorem sz3 : szB Tryz.prog 3 false 1 = true := by kernel_rfl
theorem by3 : byB Tryz.prog 3 8 = true := by kernel_rfl
theorem zr3 : zrB Tryz.prog 3 (.int .i64 0) := by unfold zrB; kernel_rfl
theorem int3 : intB Tryz.prog 3 .i64 = true := by kernel_rfl
theorem sz22 : szB Tryz.prog 22 false 1 = true := by kernel_rfl
theorem sl22 : slB Tryz.prog 22 33 2 = true := by kernel_rfl
theorem isl22 : isSl Tryz.prog 22 = true := by kernel_rfl
theorem sz24 : szB Tryz.prog 24 true 4 = true := by kernel_rfl
theorem zr24 : zrB Tryz.prog 24 (.agg #[.int .i64 0, .int .i64 0, .int .i64 0, .int .i64 0]) := by unfold zrB; kernel_rfl
theorem fld24_0 : fldB Tryz.prog 24 0 0 = true := by kernel_rfl
theorem fld24_1 : fldB Tryz.prog 24 1 1 = true := by kernel_rfl
theorem fld24_2 : fldB Tryz.prog 24 2 2 = true := by kernel_rfl
theorem fld24_3 : fldB Tryz.prog 24 3 3 = true := by kernel_rfl
theorem pl24 : plB Tryz.prog 24 [(0, 1), (1, 1), (2, 1), (3, 1)] = true := by kernel_rfl
theorem eqi24 : EqI Tryz.prog 24 4 := by
  intro xs ys hx hy w
  match xs, ys, hx, hy with
  | [a0, a1, a2, a3], [b0, b1, b2, b3], _, _ =>
    refine ⟨fun x y => run_eqGuard_agg w .eql 24 x y _ _ (by kernel_rfl), fun x y => run_eqGuard_agg w .neq 24 x y _ _ (by kernel_rfl), ?_⟩
    have hf : (Tryz.prog.fieldsOf 24).toList = [⟨ "Wedge", 3, 0, false, "", "", 0⟩, ⟨ "Metal", 3, 1, false, "", "", 8⟩, ⟨ "Skips", 3, 2, false, "", "", 16⟩, ⟨ "Thick", 3, 3, false, "", "", 24⟩] := by kernel_rfl
    rw [show (10000 : Nat) = 9998 + 1 + 1 from rfl, run_equalIn_struct w (9998 + 1) 24 _ _ (by kernel_rfl) (by kernel_rfl), hf]
    have u3 := Tryz.underlying3; 
    simp [Op.eqFields, part, isAgg, run_underlying u3, iW, run_equalIn_int, u3, Result.andThen]
    (repeat' split) <;> simp_all
theorem sz26 : szB Tryz.prog 26 true 2 = true := by kernel_rfl
theorem zr26 : zrB Tryz.prog 26 (.agg #[.int .i64 0, .int .i64 0]) := by unfold zrB; kernel_rfl
theorem fld26_0 : fldB Tryz.prog 26 0 0 = true := by kernel_rfl
theorem fld26_1 : fldB Tryz.prog 26 1 1 = true := by kernel_rfl
theorem pl26 : plB Tryz.prog 26 [(0, 1), (1, 1)] = true := by kernel_rfl
theorem sz28 : szB Tryz.prog 28 true 11 = true := by kernel_rfl
theorem zr28 : zrB Tryz.prog 28 (.agg #[.slice none 0 0, .int .i64 0, .int .i64 0, .int .i64 0, .int .i64 0, .int .i64 0, .int .i64 0, .int .i64 0, .int .i64 0, .int .i64 0, .int .i64 0]) := by unfold zrB; kernel_rfl
theorem fld28_0 : fldB Tryz.prog 28 0 0 = true := by kernel_rfl
theorem fld28_1 : fldB Tryz.prog 28 1 1 = true := by kernel_rfl
theorem fld28_2 : fldB Tryz.prog 28 2 5 = true := by kernel_rfl
theorem fld28_3 : fldB Tryz.prog 28 3 9 = true := by kernel_rfl
theorem pl28 : plB Tryz.prog 28 [(0, 1), (1, 4), (5, 4), (9, 2)] = true := by kernel_rfl
theorem sz29 : szB Tryz.prog 29 false 1 = true := by kernel_rfl
theorem sl29 : slB Tryz.prog 29 117 1 = true := by kernel_rfl
theorem isl29 : isSl Tryz.prog 29 = true := by kernel_rfl
theorem sz31 : szB Tryz.prog 31 true 2 = true := by kernel_rfl
theorem zr31 : zrB Tryz.prog 31 (.agg #[.int .i64 0, .slice none 0 0]) := by unfold zrB; kernel_rfl
theorem fld31_0 : fldB Tryz.prog 31 0 0 = true := by kernel_rfl
theorem fld31_1 : fldB Tryz.prog 31 1 1 = true := by kernel_rfl
theorem pl31 : plB Tryz.prog 31 [(0, 1), (1, 1)] = true := by kernel_rfl
theorem sz33 : szB Tryz.prog 33 true 2 = true := by kernel_rfl
theorem by33 : byB Tryz.prog 33 16 = true := by kernel_rfl
theorem zr33 : zrB Tryz.prog 33 (.agg #[.int .i64 0, .int .i64 0]) := by unfold zrB; kernel_rfl
theorem fld33_0 : fldB Tryz.prog 33 0 0 = true := by kernel_rfl
theorem fld33_1 : fldB Tryz.prog 33 1 1 = true := by kernel_rfl
theorem fd33_1 : (match Tryz.prog.underlying 33 with | some (.struct fs) => (fs[1]?).map (fun fd => (fd.offset, fd.type)) | _ => none) = some (1, 3) := by kernel_rfl
theorem pl33 : plB Tryz.prog 33 [(0, 1), (1, 1)] = true := by kernel_rfl
theorem eqi33 : EqI Tryz.prog 33 2 := by
  intro xs ys hx hy w
  match xs, ys, hx, hy with
  | [a0, a1], [b0, b1], _, _ =>
    refine ⟨fun x y => run_eqGuard_agg w .eql 33 x y _ _ (by kernel_rfl), fun x y => run_eqGuard_agg w .neq 33 x y _ _ (by kernel_rfl), ?_⟩
    have hf : (Tryz.prog.fieldsOf 33).toList = [⟨ "X", 3, 0, false, "", "", 0⟩, ⟨ "Z", 3, 1, false, "", "", 8⟩] := by kernel_rfl
    rw [show (10000 : Nat) = 9998 + 1 + 1 from rfl, run_equalIn_struct w (9998 + 1) 33 _ _ (by kernel_rfl) (by kernel_rfl), hf]
    have u3 := Tryz.underlying3; 
    simp [Op.eqFields, part, isAgg, run_underlying u3, iW, run_equalIn_int, u3, Result.andThen]
    (repeat' split) <;> simp_all
theorem sz35 : szB Tryz.prog 35 true 5 = true := by kernel_rfl
theorem fld35_0 : fldB Tryz.prog 35 0 0 = true := by kernel_rfl
theorem fld35_1 : fldB Tryz.prog 35 1 2 = true := by kernel_rfl
theorem fld35_2 : fldB Tryz.prog 35 2 3 = true := by kernel_rfl
theorem fld35_3 : fldB Tryz.prog 35 3 4 = true := by kernel_rfl
theorem sz37 : szB Tryz.prog 37 true 18 = true := by kernel_rfl
theorem zr37 : zrB Tryz.prog 37 (.agg #[.slice none 0 0, .int .i64 0, .int .i64 0, .int .i64 0, .int .i64 0, .int .i64 0, .int .i64 0, .int .i64 0, .int .i64 0, .int .i64 0, .int .i64 0, .int .i64 0, .slice none 0 0, .int .i64 0, .int .i64 0, .int .i64 0, .int .i64 0, .int .i64 0]) := by unfold zrB; kernel_rfl
theorem fld37_0 : fldB Tryz.prog 37 0 0 = true := by kernel_rfl
theorem fld37_1 : fldB Tryz.prog 37 1 11 = true := by kernel_rfl
theorem fld37_2 : fldB Tryz.prog 37 2 13 = true := by kernel_rfl
theorem pl37 : plB Tryz.prog 37 [(0, 11), (11, 2), (13, 5)] = true := by kernel_rfl
theorem sz40 : szB Tryz.prog 40 false 1 = true := by kernel_rfl
theorem zr40 : zrB Tryz.prog 40 (.int .i64 0) := by unfold zrB; kernel_rfl
theorem sz46 : szB Tryz.prog 46 false 1 = true := by kernel_rfl
theorem by46 : byB Tryz.prog 46 16 = true := by kernel_rfl
theorem zr46 : zrB Tryz.prog 46 (.complex .f64 0 0) := by unfold zrB; kernel_rfl
theorem sz56 : szB Tryz.prog 56 true 2 = true := by kernel_rfl
theorem zr56 : zrB Tryz.prog 56 (.agg #[.int .i64 0, .int .i64 0]) := by unfold zrB; kernel_rfl
theorem fld56_0 : fldB Tryz.prog 56 0 0 = true := by kernel_rfl
theorem fld56_1 : fldB Tryz.prog 56 1 1 = true := by kernel_rfl
theorem pl56 : plB Tryz.prog 56 [(0, 1), (1, 1)] = true := by kernel_rfl
theorem sz63 : szB Tryz.prog 63 true 2 = true := by kernel_rfl
theorem zr63 : zrB Tryz.prog 63 (.agg #[.int .i64 0, .int .i64 0]) := by unfold zrB; kernel_rfl
theorem ar63 : arB Tryz.prog 63 2 3 1 = true := by kernel_rfl
theorem sz72 : szB Tryz.prog 72 false 1 = true := by kernel_rfl
theorem by72 : byB Tryz.prog 72 24 = true := by kernel_rfl
theorem zr72 : zrB Tryz.prog 72 (.slice none 0 0) := by unfold zrB; kernel_rfl
theorem sl72 : slB Tryz.prog 72 46 1 = true := by kernel_rfl
theorem isl72 : isSl Tryz.prog 72 = true := by kernel_rfl
theorem sz77 : szB Tryz.prog 77 false 1 = true := by kernel_rfl
theorem sl77 : slB Tryz.prog 77 3 1 = true := by kernel_rfl
theorem isl77 : isSl Tryz.prog 77 = true := by kernel_rfl
theorem sz105 : szB Tryz.prog 105 false 1 = true := by kernel_rfl
theorem sl105 : slB Tryz.prog 105 72 1 = true := by kernel_rfl
theorem isl105 : isSl Tryz.prog 105 = true := by kernel_rfl
theorem sz117 : szB Tryz.prog 117 false 1 = true := by kernel_rfl
theorem by117 : byB Tryz.prog 117 4 = true := by kernel_rfl
theorem zr117 : zrB Tryz.prog 117 (.float .f32 0) := by unfold zrB; kernel_rfl
theorem flt117 : fltB Tryz.prog 117 .f32 = true := by kernel_rfl
theorem sz128 : szB Tryz.prog 128 false 1 = true := by kernel_rfl
theorem sl128 : slB Tryz.prog 128 135 8 = true := by kernel_rfl
theorem isl128 : isSl Tryz.prog 128 = true := by kernel_rfl
theorem sz130 : szB Tryz.prog 130 true 13 = true := by kernel_rfl
theorem zr130 : zrB Tryz.prog 130 (.agg #[.slice none 0 0, .int .i64 0, .int .i64 0, .int .i64 0, .int .i64 0, .int .i64 0, .int .i64 0, .int .i64 0, .int .i64 0, .int .i64 0, .int .i64 0, .slice none 0 0, .slice none 0 0]) := by unfold zrB; kernel_rfl
theorem fld130_0 : fldB Tryz.prog 130 0 0 = true := by kernel_rfl
theorem fd130_0 : (match Tryz.prog.underlying 130 with | some (.struct fs) => (fs[0]?).map (fun fd => (fd.offset, fd.type)) | _ => none) = some (0, 28) := by kernel_rfl
theorem fld130_1 : fldB Tryz.prog 130 1 11 = true := by kernel_rfl
theorem fld130_2 : fldB Tryz.prog 130 2 12 = true := by kernel_rfl
theorem pl130 : plB Tryz.prog 130 [(0, 11), (11, 1), (12, 1)] = true := by kernel_rfl
theorem sz135 : szB Tryz.prog 135 true 8 = true := by kernel_rfl
theorem by135 : byB Tryz.prog 135 64 = true := by kernel_rfl
theorem zr135 : zrB Tryz.prog 135 (.agg #[.int .i64 0, .int .i64 0, .int .i64 0, .int .i64 0, .int .i64 0, .int .i64 0, .int .i64 0, .int .i64 0]) := by unfold zrB; kernel_rfl
theorem fld135_0 : fldB Tryz.prog 135 0 0 = true := by kernel_rfl
theorem fld135_1 : fldB Tryz.prog 135 1 1 = true := by kernel_rfl
theorem fld135_2 : fldB Tryz.prog 135 2 3 = true := by kernel_rfl
theorem fld135_3 : fldB Tryz.prog 135 3 5 = true := by kernel_rfl
theorem fld135_4 : fldB Tryz.prog 135 4 6 = true := by kernel_rfl
theorem fld135_5 : fldB Tryz.prog 135 5 7 = true := by kernel_rfl
theorem pl135 : plB Tryz.prog 135 [(0, 1), (1, 2), (3, 2), (5, 1), (6, 1), (7, 1)] = true := by kernel_rfl
theorem sz140 : szB Tryz.prog 140 false 1 = true := by kernel_rfl
theorem zr140 : zrB Tryz.prog 140 (.slice none 0 0) := by unfold zrB; kernel_rfl
theorem isl140 : isSl Tryz.prog 140 = true := by kernel_rfl
theorem sz150 : szB Tryz.prog 150 true 5 = true := by kernel_rfl
theorem zr150 : zrB Tryz.prog 150 (.agg #[.int .i64 0, .int .i64 0, .int .i64 0, .int .i64 0, .int .i64 0]) := by unfold zrB; kernel_rfl
theorem fld150_0 : fldB Tryz.prog 150 0 0 = true := by kernel_rfl
theorem pl150 : plB Tryz.prog 150 [(0, 5)] = true := by kernel_rfl
theorem sz156 : szB Tryz.prog 156 false 1 = true := by kernel_rfl
theorem zr156 : zrB Tryz.prog 156 (.pointer none) := by unfold zrB; kernel_rfl
theorem sz160 : szB Tryz.prog 160 true 2 = true := by kernel_rfl
theorem by160 : byB Tryz.prog 160 16 = true := by kernel_rfl
theorem zr160 : zrB Tryz.prog 160 (.agg #[.int .i64 0, .int .i64 0]) := by unfold zrB; kernel_rfl
theorem fld160_0 : fldB Tryz.prog 160 0 0 = true := by kernel_rfl
theorem fld160_1 : fldB Tryz.prog 160 1 1 = true := by kernel_rfl
theorem pl160 : plB Tryz.prog 160 [(0, 1), (1, 1)] = true := by kernel_rfl
theorem sz165 : szB Tryz.prog 165 false 1 = true := by kernel_rfl
theorem int165 : intB Tryz.prog 165 .u64 = true := by kernel_rfl
theorem sz167 : szB Tryz.prog 167 false 1 = true := by kernel_rfl
theorem flt167 : fltB Tryz.prog 167 .f64 = true := by kernel_rfl
theorem sz178 : szB Tryz.prog 178 false 1 = true := by kernel_rfl
theorem sl189 : slB Tryz.prog 189 160 2 = true := by kernel_rfl
theorem isl189 : isSl Tryz.prog 189 = true := by kernel_rfl
theorem sz200 : szB Tryz.prog 200 false 1 = true := by kernel_rfl
theorem sl200 : slB Tryz.prog 200 273 61 = true := by kernel_rfl
theorem zr202 : zrB Tryz.prog 202 (.agg #[.int .i64 0, .int .i64 0, .int .i64 0, .int .i64 0, .int .i64 0, .slice none 0 0, .int .i64 0, .int .i64 0, .int .i64 0, .int .i64 0, .int .i64 0, .int .i64 0, .int .i64 0, .int .i64 0, .int .i64 0, .int .i64 0, .int .i64 0, .slice none 0 0]) := by unfold zrB; kernel_rfl
theorem fld202_0 : fldB Tryz.prog 202 0 0 = true := by kernel_rfl
theorem fld202_1 : fldB Tryz.prog 202 1 5 = true := by kernel_rfl
theorem fld202_2 : fldB Tryz.prog 202 2 16 = true := by kernel_rfl
theorem fld202_3 : fldB Tryz.prog 202 3 17 = true := by kernel_rfl
theorem pl202 : plB Tryz.prog 202 [(0, 5), (5, 11), (16, 1), (17, 1)] = true := by kernel_rfl
theorem zr234 : zrB Tryz.prog 234 (.agg #[.int .i64 0, .int .i64 0, .int .i64 0, .int .i64 0, .int .i64 0, .int .i64 0, .int .i64 0, .int .i64 0, .int .i64 0, .int .i64 0, .int .i64 0, .int .i64 0, .int .i64 0, .int .i64 0, .int .i64 0, .int .i64 0, .int .i64 0, .int .i64 0, .int .i64 0, .int .i64 0, .int .i64 0, .int .i64 0, .int .i64 0, .int .i64 0, .int .i64 0, .int .i64 0, .int .i64 0, .int .i64 0, .int .i64 0, .int .i64 0, .int .i64 0, .int .i64 0, .int .i64 0, .int .i64 0, .int .i64 0, .int .i64 0, .int .i64 0, .int .i64 0, .int .i64 0, .int .i64 0, .int .i64 0, .int .i64 0, .int .i64 0, .int .i64 0, .int .i64 0, .int .i64 0, .int .i64 0, .int .i64 0, .int .i64 0, .int .i64 0, .int .i64 0, .int .i64 0, .int .i64 0, .int .i64 0, .int .i64 0, .int .i64 0, .int .i64 0, .int .i64 0, .int .i64 0, .int .i64 0, .int .i64 0, .int .i64 0, .int .i64 0, .int .i64 0]) := by unfold zrB; kernel_rfl
theorem ar234 : arB Tryz.prog 234 64 3 1 = true := by kernel_rfl
theorem sz236 : szB Tryz.prog 236 true 64 = true := by kernel_rfl
theorem zr236 : zrB Tryz.prog 236 (.agg #[.float .f32 0, .float .f32 0, .float .f32 0, .float .f32 0, .float .f32 0, .float .f32 0, .float .f32 0, .float .f32 0, .float .f32 0, .float .f32 0, .float .f32 0, .float .f32 0, .float .f32 0, .float .f32 0, .float .f32 0, .float .f32 0, .float .f32 0, .float .f32 0, .float .f32 0, .float .f32 0, .float .f32 0, .float .f32 0, .float .f32 0, .float .f32 0, .float .f32 0, .float .f32 0, .float .f32 0, .float .f32 0, .float .f32 0, .float .f32 0, .float .f32 0, .float .f32 0, .float .f32 0, .float .f32 0, .float .f32 0, .float .f32 0, .float .f32 0, .float .f32 0, .float .f32 0, .float .f32 0, .float .f32 0, .float .f32 0, .float .f32 0, .float .f32 0, .float .f32 0, .float .f32 0, .float .f32 0, .float .f32 0, .float .f32 0, .float .f32 0, .float .f32 0, .float .f32 0, .float .f32 0, .float .f32 0, .float .f32 0, .float .f32 0, .float .f32 0, .float .f32 0, .float .f32 0, .float .f32 0, .float .f32 0, .float .f32 0, .float .f32 0, .float .f32 0]) := by unfold zrB; kernel_rfl
theorem ar236 : arB Tryz.prog 236 64 117 1 = true := by kernel_rfl
theorem sz242 : szB Tryz.prog 242 true 11 = true := by kernel_rfl
theorem zr242 : zrB Tryz.prog 242 (.agg #[.slice none 0 0, .int .i64 0, .int .i64 0, .int .i64 0, .int .i64 0, .int .i64 0, .int .i64 0, .int .i64 0, .int .i64 0, .int .i64 0, .int .i64 0]) := by unfold zrB; kernel_rfl
theorem fld242_0 : fldB Tryz.prog 242 0 0 = true := by kernel_rfl
theorem pl242 : plB Tryz.prog 242 [(0, 11)] = true := by kernel_rfl
theorem sz243 : szB Tryz.prog 243 false 1 = true := by kernel_rfl
theorem sl243 : slB Tryz.prog 243 317 3 = true := by kernel_rfl
theorem isl243 : isSl Tryz.prog 243 = true := by kernel_rfl
theorem sz245 : szB Tryz.prog 245 true 13 = true := by kernel_rfl
theorem zr245 : zrB Tryz.prog 245 (.agg #[.slice none 0 0, .int .i64 0, .int .i64 0, .int .i64 0, .int .i64 0, .int .i64 0, .int .i64 0, .int .i64 0, .int .i64 0, .int .i64 0, .int .i64 0, .slice none 0 0, .slice none 0 0]) := by unfold zrB; kernel_rfl
theorem fld245_0 : fldB Tryz.prog 245 0 0 = true := by kernel_rfl
theorem fld245_1 : fldB Tryz.prog 245 1 11 = true := by kernel_rfl
theorem fld245_2 : fldB Tryz.prog 245 2 12 = true := by kernel_rfl
theorem pl245 : plB Tryz.prog 245 [(0, 11), (11, 1), (12, 1)] = true := by kernel_rfl
theorem sz256 : szB Tryz.prog 256 false 1 = true := by kernel_rfl
theorem zr256 : zrB Tryz.prog 256 (.pointer none) := by unfold zrB; kernel_rfl
theorem sz262 : szB Tryz.prog 262 true 64 = true := by kernel_rfl
theorem by262 : byB Tryz.prog 262 512 = true := by kernel_rfl
theorem zr262 : zrB Tryz.prog 262 (.agg #[.int .i64 0, .int .i64 0, .int .i64 0, .int .i64 0, .int .i64 0, .int .i64 0, .int .i64 0, .int .i64 0, .int .i64 0, .int .i64 0, .int .i64 0, .int .i64 0, .int .i64 0, .int .i64 0, .int .i64 0, .int .i64 0, .int .i64 0, .int .i64 0, .int .i64 0, .int .i64 0, .int .i64 0, .int .i64 0, .int .i64 0, .int .i64 0, .int .i64 0, .int .i64 0, .int .i64 0, .int .i64 0, .int .i64 0, .int .i64 0, .int .i64 0, .int .i64 0, .int .i64 0, .int .i64 0, .int .i64 0, .int .i64 0, .int .i64 0, .int .i64 0, .int .i64 0, .int .i64 0, .int .i64 0, .int .i64 0, .int .i64 0, .int .i64 0, .int .i64 0, .int .i64 0, .int .i64 0, .int .i64 0, .int .i64 0, .int .i64 0, .int .i64 0, .int .i64 0, .int .i64 0, .int .i64 0, .int .i64 0, .int .i64 0, .int .i64 0, .int .i64 0, .int .i64 0, .int .i64 0, .int .i64 0, .int .i64 0, .int .i64 0, .int .i64 0]) := by unfold zrB; kernel_rfl
theorem ar262 : arB Tryz.prog 262 64 3 1 = true := by kernel_rfl
theorem sz272 : szB Tryz.prog 272 true 61 = true := by kernel_rfl
theorem zr272 : zrB Tryz.prog 272 (.agg #[.complex .f32 0 0, .complex .f32 0 0, .complex .f32 0 0, .complex .f32 0 0, .complex .f32 0 0, .complex .f32 0 0, .complex .f32 0 0, .complex .f32 0 0, .complex .f32 0 0, .complex .f32 0 0, .complex .f32 0 0, .complex .f32 0 0, .complex .f32 0 0, .complex .f32 0 0, .complex .f32 0 0, .complex .f32 0 0, .complex .f32 0 0, .complex .f32 0 0, .complex .f32 0 0, .complex .f32 0 0, .complex .f32 0 0, .complex .f32 0 0, .complex .f32 0 0, .complex .f32 0 0, .complex .f32 0 0, .complex .f32 0 0, .complex .f32 0 0, .complex .f32 0 0, .complex .f32 0 0, .complex .f32 0 0, .complex .f32 0 0, .complex .f32 0 0, .complex .f32 0 0, .complex .f32 0 0, .complex .f32 0 0, .complex .f32 0 0, .complex .f32 0 0, .complex .f32 0 0, .complex .f32 0 0, .complex .f32 0 0, .complex .f32 0 0, .complex .f32 0 0, .complex .f32 0 0, .complex .f32 0 0, .complex .f32 0 0, .complex .f32 0 0, .complex .f32 0 0, .complex .f32 0 0, .complex .f32 0 0, .complex .f32 0 0, .complex .f32 0 0, .complex .f32 0 0, .complex .f32 0 0, .complex .f32 0 0, .complex .f32 0 0, .complex .f32 0 0, .complex .f32 0 0, .complex .f32 0 0, .complex .f32 0 0, .complex .f32 0 0, .complex .f32 0 0]) := by unfold zrB; kernel_rfl
theorem ar272 : arB Tryz.prog 272 61 178 1 = true := by kernel_rfl
theorem by273 : byB Tryz.prog 273 488 = true := by kernel_rfl
theorem zr273 : zrB Tryz.prog 273 (.agg #[.complex .f32 0 0, .complex .f32 0 0, .complex .f32 0 0, .complex .f32 0 0, .complex .f32 0 0, .complex .f32 0 0, .complex .f32 0 0, .complex .f32 0 0, .complex .f32 0 0, .complex .f32 0 0, .complex .f32 0 0, .complex .f32 0 0, .complex .f32 0 0, .complex .f32 0 0, .complex .f32 0 0, .complex .f32 0 0, .complex .f32 0 0, .complex .f32 0 0, .complex .f32 0 0, .complex .f32 0 0, .complex .f32 0 0, .complex .f32 0 0, .complex .f32 0 0, .complex .f32 0 0, .complex .f32 0 0, .complex .f32 0 0, .complex .f32 0 0, .complex .f32 0 0, .complex .f32 0 0, .complex .f32 0 0, .complex .f32 0 0, .complex .f32 0 0, .complex .f32 0 0, .complex .f32 0 0, .complex .f32 0 0, .complex .f32 0 0, .complex .f32 0 0, .complex .f32 0 0, .complex .f32 0 0, .complex .f32 0 0, .complex .f32 0 0, .complex .f32 0 0, .complex .f32 0 0, .complex .f32 0 0, .complex .f32 0 0, .complex .f32 0 0, .complex .f32 0 0, .complex .f32 0 0, .complex .f32 0 0, .complex .f32 0 0, .complex .f32 0 0, .complex .f32 0 0, .complex .f32 0 0, .complex .f32 0 0, .complex .f32 0 0, .complex .f32 0 0, .complex .f32 0 0, .complex .f32 0 0, .complex .f32 0 0, .complex .f32 0 0, .complex .f32 0 0]) := by unfold zrB; kernel_rfl
theorem ar273 : arB Tryz.prog 273 61 178 1 = true := by kernel_rfl
theorem sl282 : slB Tryz.prog 282 40 1 = true := by kernel_rfl
theorem isl282 : isSl Tryz.prog 282 = true := by kernel_rfl
theorem sz285 : szB Tryz.prog 285 true 2 = true := by kernel_rfl
theorem zr285 : zrB Tryz.prog 285 (.agg #[.float .f64 0, .float .f64 0]) := by unfold zrB; kernel_rfl
theorem ar285 : arB Tryz.prog 285 2 167 1 = true := by kernel_rfl
theorem int297 : intB Tryz.prog 297 .u64 = true := by kernel_rfl
theorem sz317 : szB Tryz.prog 317 true 3 = true := by kernel_rfl
theorem by317 : byB Tryz.prog 317 24 = true := by kernel_rfl
theorem zr317 : zrB Tryz.prog 317 (.agg #[.int .i64 0, .int .i64 0, .int .i64 0]) := by unfold zrB; kernel_rfl
theorem fld317_0 : fldB Tryz.prog 317 0 0 = true := by kernel_rfl
theorem fld317_1 : fldB Tryz.prog 317 1 2 = true := by kernel_rfl
theorem pl317 : plB Tryz.prog 317 [(0, 2), (2, 1)] = true := by kernel_rfl
theorem sz328 : szB Tryz.prog 328 false 1 = true := by kernel_rfl
theorem sl328 : slB Tryz.prog 328 262 64 = true := by kernel_rfl
theorem zr330 : zrB Tryz.prog 330 (.agg #[.int .i64 0, .slice none 0 0]) := by unfold zrB; kernel_rfl
theorem fld330_0 : fldB Tryz.prog 330 0 0 = true := by kernel_rfl
theorem fld330_1 : fldB Tryz.prog 330 1 1 = true := by kernel_rfl
theorem pl330 : plB Tryz.prog 330 [(0, 1), (1, 1)] = true := by kernel_rfl
theorem zr364 : zrB Tryz.prog 364 (.agg #[.int .i64 0, .int .i64 0, .int .i64 0, .int .i64 0, .int .i64 0, .int .i64 0]) := by unfold zrB; kernel_rfl
theorem fld364_0 : fldB Tryz.prog 364 0 0 = true := by kernel_rfl
theorem fld364_1 : fldB Tryz.prog 364 1 1 = true := by kernel_rfl
theorem fld364_2 : fldB Tryz.prog 364 2 2 = true := by kernel_rfl
theorem fld364_3 : fldB Tryz.prog 364 3 3 = true := by kernel_rfl
theorem fld364_4 : fldB Tryz.prog 364 4 4 = true := by kernel_rfl
theorem fld364_5 : fldB Tryz.prog 364 5 5 = true := by kernel_rfl
theorem pl364 : plB Tryz.prog 364 [(0, 1), (1, 1), (2, 1), (3, 1), (4, 1), (5, 1)] = true := by kernel_rfl
theorem sz366 : szB Tryz.prog 366 true 6 = true := by kernel_rfl
theorem zr366 : zrB Tryz.prog 366 (.agg #[.int .i64 0, .int .i64 0, .int .i64 0, .int .i64 0, .int .i64 0, .int .i64 0]) := by unfold zrB; kernel_rfl
theorem fld366_0 : fldB Tryz.prog 366 0 0 = true := by kernel_rfl
theorem pl366 : plB Tryz.prog 366 [(0, 6)] = true := by kernel_rfl
theorem sz375 : szB Tryz.prog 375 true 4 = true := by kernel_rfl
theorem zr375 : zrB Tryz.prog 375 (.agg #[.int .i64 0, .int .i64 0, .int .i64 0, .int .i64 0]) := by unfold zrB; kernel_rfl
theorem ar375 : arB Tryz.prog 375 4 3 1 = true := by kernel_rfl
theorem sz388 : szB Tryz.prog 388 true 2 = true := by kernel_rfl
theorem zr388 : zrB Tryz.prog 388 (.agg #[.int .u64 0, .int .u64 0]) := by unfold zrB; kernel_rfl
theorem fld388_0 : fldB Tryz.prog 388 0 0 = true := by kernel_rfl
theorem fld388_1 : fldB Tryz.prog 388 1 1 = true := by kernel_rfl
theorem pl388 : plB Tryz.prog 388 [(0, 1), (1, 1)] = true := by kernel_rfl
theorem eqk388 : EqK Tryz.prog .u64 388 2 := by
  intro xs ys hx hy w
  match xs, ys, hx, hy with
  | [a0, a1], [b0, b1], _, _ =>
    refine ⟨fun x y => run_eqGuard_agg w .eql 388 x y _ _ (by kernel_rfl), fun x y => run_eqGuard_agg w .neq 388 x y _ _ (by kernel_rfl), ?_⟩
    have hf : (Tryz.prog.fieldsOf 388).toList = [⟨ "high", 165, 0, false, "", "couplant/ray", 0⟩, ⟨ "low", 165, 1, false, "", "couplant/ray", 8⟩] := by kernel_rfl
    rw [show (10000 : Nat) = 9998 + 1 + 1 from rfl, run_equalIn_struct w (9998 + 1) 388 _ _ (by kernel_rfl) (by kernel_rfl), hf]
    have u165 := Tryz.underlying165; 
    simp [Op.eqFields, part, isAgg, run_underlying u165, kW, run_equalIn_int, u165, Result.andThen]
    (repeat' split) <;> simp_all
end Go.Proofs.YtphlaicnmmglhaaGreat.Am
