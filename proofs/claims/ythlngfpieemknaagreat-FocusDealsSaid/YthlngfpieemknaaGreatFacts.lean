/- Closed facts of the program's types and functions. Conditions: none. -/
import Derived.Test.YthlngfpieemknaaGreatRows
import Derived.Test.YthlngfpieemknaaGreatAmD
import Derived.ChangeKeysEq
set_option linter.unusedVariables false
set_option linter.unusedSimpArgs false
namespace Go.Proofs.YthlngfpieemknaaGreat.Am
open Go
theorem mixed : Tryz.prog.follows .mixedOrders = true := by kernel_rfl
theorem en17 : enB Tryz.prog 17 = true := by kernel_rfl
theorem en19 : enB Tryz.prog 19 = true := by kernel_rfl
theorem en22 : enB Tryz.prog 22 = true := by kernel_rfl
theorem en25 : enB Tryz.prog 25 = true := by kernel_rfl
theorem en27 : enB Tryz.prog 27 = true := by kernel_rfl
theorem en30 : enB Tryz.prog 30 = true := by kernel_rfl
theorem en31 : enB Tryz.prog 31 = true := by kernel_rfl
theorem en32 : enB Tryz.prog 32 = true := by kernel_rfl
theorem en33 : enB Tryz.prog 33 = true := by kernel_rfl
theorem en34 : enB Tryz.prog 34 = true := by kernel_rfl
theorem en37 : enB Tryz.prog 37 = true := by kernel_rfl
theorem en49 : enB Tryz.prog 49 = true := by kernel_rfl
theorem en56 : enB Tryz.prog 56 = true := by kernel_rfl
theorem en75 : enB Tryz.prog 75 = true := by kernel_rfl
theorem en76 : enB Tryz.prog 76 = true := by kernel_rfl
theorem en77 : enB Tryz.prog 77 = true := by kernel_rfl
theorem en78 : enB Tryz.prog 78 = true := by kernel_rfl
theorem en79 : enB Tryz.prog 79 = true := by kernel_rfl
theorem en80 : enB Tryz.prog 80 = true := by kernel_rfl
theorem en81 : enB Tryz.prog 81 = true := by kernel_rfl
theorem en82 : enB Tryz.prog 82 = true := by kernel_rfl
theorem en86 : enB Tryz.prog 86 = true := by kernel_rfl
theorem en87 : enB Tryz.prog 87 = true := by kernel_rfl
theorem en88 : enB Tryz.prog 88 = true := by kernel_rfl
theorem en89 : enB Tryz.prog 89 = true := by kernel_rfl
theorem en94 : enB Tryz.prog 94 = true := by kernel_rfl
theorem en95 : enB Tryz.prog 95 = true := by kernel_rfl
theorem en96 : enB Tryz.prog 96 = true := by kernel_rfl
theorem en97 : enB Tryz.prog 97 = true := by kernel_rfl
theorem en100 : enB Tryz.prog 100 = true := by kernel_rfl
theorem en101 : enB Tryz.prog 101 = true := by kernel_rfl
theorem en102 : enB Tryz.prog 102 = true := by kernel_rfl
theorem en103 : enB Tryz.prog 103 = true := by kernel_rfl
theorem en104 : enB Tryz.prog 104 = true := by kernel_rfl
theorem en105 : enB Tryz.prog 105 = true := by kernel_rfl
theorem en106 : enB Tryz.prog 106 = true := by kernel_rfl
theorem en109 : enB Tryz.prog 109 = true := by kernel_rfl
theorem en113 : enB Tryz.prog 113 = true := by kernel_rfl
theorem en117 : enB Tryz.prog 117 = true := by kernel_rfl
theorem en127 : enB Tryz.prog 127 = true := by kernel_rfl
theorem en133 : enB Tryz.prog 133 = true := by kernel_rfl
theorem en134 : enB Tryz.prog 134 = true := by kernel_rfl
theorem en135 : enB Tryz.prog 135 = true := by kernel_rfl
theorem en136 : enB Tryz.prog 136 = true := by kernel_rfl
theorem en137 : enB Tryz.prog 137 = true := by kernel_rfl
theorem en138 : enB Tryz.prog 138 = true := by kernel_rfl
theorem en139 : enB Tryz.prog 139 = true := by kernel_rfl
theorem en140 : enB Tryz.prog 140 = true := by kernel_rfl
theorem en141 : enB Tryz.prog 141 = true := by kernel_rfl
theorem en146 : enB Tryz.prog 146 = true := by kernel_rfl
theorem en147 : enB Tryz.prog 147 = true := by kernel_rfl
theorem en148 : enB Tryz.prog 148 = true := by kernel_rfl
theorem en149 : enB Tryz.prog 149 = true := by kernel_rfl
theorem en154 : enB Tryz.prog 154 = true := by kernel_rfl
theorem en156 : enB Tryz.prog 156 = true := by kernel_rfl
theorem en157 : enB Tryz.prog 157 = true := by kernel_rfl
theorem en158 : enB Tryz.prog 158 = true := by kernel_rfl
theorem en159 : enB Tryz.prog 159 = true := by kernel_rfl
theorem en160 : enB Tryz.prog 160 = true := by kernel_rfl
theorem en161 : enB Tryz.prog 161 = true := by kernel_rfl
theorem en162 : enB Tryz.prog 162 = true := by kernel_rfl
theorem en163 : enB Tryz.prog 163 = true := by kernel_rfl
theorem en164 : enB Tryz.prog 164 = true := by kernel_rfl
theorem en191 : enB Tryz.prog 191 = true := by kernel_rfl
theorem en192 : enB Tryz.prog 192 = true := by kernel_rfl
theorem en193 : enB Tryz.prog 193 = true := by kernel_rfl
theorem en195 : enB Tryz.prog 195 = true := by kernel_rfl
theorem en196 : enB Tryz.prog 196 = true := by kernel_rfl
theorem en197 : enB Tryz.prog 197 = true := by kernel_rfl
theorem en203 : enB Tryz.prog 203 = true := by kernel_rfl
theorem en205 : enB Tryz.prog 205 = true := by kernel_rfl
theorem en206 : enB Tryz.prog 206 = true := by kernel_rfl
theorem en207 : enB Tryz.prog 207 = true := by kernel_rfl
theorem en208 : enB Tryz.prog 208 = true := by kernel_rfl
theorem en209 : enB Tryz.prog 209 = true := by kernel_rfl
theorem en218 : enB Tryz.prog 218 = true := by kernel_rfl
theorem en219 : enB Tryz.prog 219 = true := by kernel_rfl
theorem en220 : enB Tryz.prog 220 = true := by kernel_rfl
theorem en221 : enB Tryz.prog 221 = true := by kernel_rfl
theorem en222 : enB Tryz.prog 222 = true := by kernel_rfl
theorem en223 : enB Tryz.prog 223 = true := by kernel_rfl
theorem en224 : enB Tryz.prog 224 = true := by kernel_rfl
theorem en225 : enB Tryz.prog 225 = true := by kernel_rfl
theorem en229 : enB Tryz.prog 229 = true := by kernel_rfl
theorem en230 : enB Tryz.prog 230 = true := by kernel_rfl
theorem en232 : enB Tryz.prog 232 = true := by kernel_rfl
theorem en233 : enB Tryz.prog 233 = true := by kernel_rfl
theorem en234 : enB Tryz.prog 234 = true := by kernel_rfl
theorem en235 : enB Tryz.prog 235 = true := by kernel_rfl
theorem en236 : enB Tryz.prog 236 = true := by kernel_rfl
theorem en237 : enB Tryz.prog 237 = true := by kernel_rfl
theorem en243 : enB Tryz.prog 243 = true := by kernel_rfl
theorem en244 : enB Tryz.prog 244 = true := by kernel_rfl
theorem en245 : enB Tryz.prog 245 = true := by kernel_rfl
theorem en246 : enB Tryz.prog 246 = true := by kernel_rfl
theorem en247 : enB Tryz.prog 247 = true := by kernel_rfl
theorem en248 : enB Tryz.prog 248 = true := by kernel_rfl
theorem en249 : enB Tryz.prog 249 = true := by kernel_rfl
theorem en250 : enB Tryz.prog 250 = true := by kernel_rfl
theorem en251 : enB Tryz.prog 251 = true := by kernel_rfl
theorem en255 : enB Tryz.prog 255 = true := by kernel_rfl
theorem en256 : enB Tryz.prog 256 = true := by kernel_rfl
theorem en257 : enB Tryz.prog 257 = true := by kernel_rfl
theorem en258 : enB Tryz.prog 258 = true := by kernel_rfl
theorem en263 : enB Tryz.prog 263 = true := by kernel_rfl
theorem en264 : enB Tryz.prog 264 = true := by kernel_rfl
theorem sz3 : szB Tryz.prog 3 false 1 = true := by kernel_rfl
theorem by3 : byB Tryz.prog 3 8 = true := by kernel_rfl
theorem zr3 : zrB Tryz.prog 3 (.int .i64 0) := by unfold zrB; kernel_rfl
theorem int3 : intB Tryz.prog 3 .i64 = true := by kernel_rfl
theorem sz4 : szB Tryz.prog 4 false 1 = true := by kernel_rfl
theorem zr4 : zrB Tryz.prog 4 (.bool false) := by unfold zrB; kernel_rfl
theorem sz22 : szB Tryz.prog 22 false 1 = true := by kernel_rfl
theorem sl22 : slB Tryz.prog 22 33 2 = true := by kernel_rfl
theorem isl22 : isSl Tryz.prog 22 = true := by kernel_rfl
theorem sz24 : szB Tryz.prog 24 true 4 = true := by kernel_rfl
theorem zr24 : zrB Tryz.prog 24 (.agg #[.int .i64 0, .int .i64 0, .int .i64 0, .int .i64 0]) := by unfold zrB; kernel_rfl
theorem fld24_0 : fldB Tryz.prog 24 0 0 = true := by kernel_rfl
theorem fld24_1 : fldB Tryz.prog 24 1 1 = true := by kernel_rfl
theorem fld24_2 : fldB Tryz.prog 24 2 2 = true := by kernel_rfl
theorem fld24_3 : fldB Tryz.prog 24 3 3 = true := by kernel_rfl
theorem pl24 : plB Tryz.prog 24 [(0, 1), (1, 1), (2, 1), (3, 1)] = true := by kernel_rfl
theorem sz26 : szB Tryz.prog 26 true 2 = true := by kernel_rfl
theorem zr26 : zrB Tryz.prog 26 (.agg #[.int .i64 0, .int .i64 0]) := by unfold zrB; kernel_rfl
theorem fld26_0 : fldB Tryz.prog 26 0 0 = true := by kernel_rfl
theorem fld26_1 : fldB Tryz.prog 26 1 1 = true := by kernel_rfl
theorem pl26 : plB Tryz.prog 26 [(0, 1), (1, 1)] = true := by kernel_rfl
theorem sz28 : szB Tryz.prog 28 true 11 = true := by kernel_rfl
theorem zr28 : zrB Tryz.prog 28 (.agg #[.slice none 0 0, .int .i64 0, .int .i64 0, .int .i64 0, .int .i64 0, .int .i64 0, .int .i64 0, .int .i64 0, .int .i64 0, .int .i64 0, .int .i64 0]) := by unfold zrB; kernel_rfl
theorem fld28_0 : fldB Tryz.prog 28 0 0 = true := by kernel_rfl
theorem fld28_1 : fldB Tryz.prog 28 1 1 = true := by kernel_rfl
theorem fld28_2 : fldB Tryz.prog 28 2 5 = true := by kernel_rfl
theorem fld28_3 : fldB Tryz.prog 28 3 9 = true := by kernel_rfl
theorem pl28 : plB Tryz.prog 28 [(0, 1), (1, 4), (5, 4), (9, 2)] = true := by kernel_rfl
theorem sz29 : szB Tryz.prog 29 false 1 = true := by kernel_rfl
theorem sl29 : slB Tryz.prog 29 127 1 = true := by kernel_rfl
theorem isl29 : isSl Tryz.prog 29 = true := by kernel_rfl
theorem sz31 : szB Tryz.prog 31 true 2 = true := by kernel_rfl
theorem zr31 : zrB Tryz.prog 31 (.agg #[.int .i64 0, .slice none 0 0]) := by unfold zrB; kernel_rfl
theorem fld31_0 : fldB Tryz.prog 31 0 0 = true := by kernel_rfl
theorem fld31_1 : fldB Tryz.prog 31 1 1 = true := by kernel_rfl
theorem pl31 : plB Tryz.prog 31 [(0, 1), (1, 1)] = true := by kernel_rfl
theorem sz33 : szB Tryz.prog 33 true 2 = true := by kernel_rfl
theorem zr33 : zrB Tryz.prog 33 (.agg #[.int .i64 0, .int .i64 0]) := by unfold zrB; kernel_rfl
theorem fld33_0 : fldB Tryz.prog 33 0 0 = true := by kernel_rfl
theorem fld33_1 : fldB Tryz.prog 33 1 1 = true := by kernel_rfl
theorem fd33_1 : (match Tryz.prog.underlying 33 with | some (.struct fs) => (fs[1]?).map (fun fd => (fd.offset, fd.type)) | _ => none) = some (1, 3) := by kernel_rfl
theorem pl33 : plB Tryz.prog 33 [(0, 1), (1, 1)] = true := by kernel_rfl
theorem sz35 : szB Tryz.prog 35 true 5 = true := by kernel_rfl
theorem zr35 : zrB Tryz.prog 35 (.agg #[.int .i64 0, .int .i64 0, .int .i64 0, .int .i64 0, .int .i64 0]) := by unfold zrB; kernel_rfl
theorem fld35_0 : fldB Tryz.prog 35 0 0 = true := by kernel_rfl
theorem fld35_1 : fldB Tryz.prog 35 1 2 = true := by kernel_rfl
theorem fld35_2 : fldB Tryz.prog 35 2 3 = true := by kernel_rfl
theorem fld35_3 : fldB Tryz.prog 35 3 4 = true := by kernel_rfl
theorem pl35 : plB Tryz.prog 35 [(0, 2), (2, 1), (3, 1), (4, 1)] = true := by kernel_rfl
theorem sz37 : szB Tryz.prog 37 true 18 = true := by kernel_rfl
theorem zr37 : zrB Tryz.prog 37 (.agg #[.slice none 0 0, .int .i64 0, .int .i64 0, .int .i64 0, .int .i64 0, .int .i64 0, .int .i64 0, .int .i64 0, .int .i64 0, .int .i64 0, .int .i64 0, .int .i64 0, .slice none 0 0, .int .i64 0, .int .i64 0, .int .i64 0, .int .i64 0, .int .i64 0]) := by unfold zrB; kernel_rfl
theorem fld37_0 : fldB Tryz.prog 37 0 0 = true := by kernel_rfl
theorem fld37_1 : fldB Tryz.prog 37 1 11 = true := by kernel_rfl
theorem fld37_2 : fldB Tryz.prog 37 2 13 = true := by kernel_rfl
theorem pl37 : plB Tryz.prog 37 [(0, 11), (11, 2), (13, 5)] = true := by kernel_rfl
theorem sz40 : szB Tryz.prog 40 false 1 = true := by kernel_rfl
theorem zr40 : zrB Tryz.prog 40 (.int .i64 0) := by unfold zrB; kernel_rfl
theorem sz56 : szB Tryz.prog 56 true 2 = true := by kernel_rfl
theorem zr56 : zrB Tryz.prog 56 (.agg #[.int .i64 0, .int .i64 0]) := by unfold zrB; kernel_rfl
theorem fld56_0 : fldB Tryz.prog 56 0 0 = true := by kernel_rfl
theorem fld56_1 : fldB Tryz.prog 56 1 1 = true := by kernel_rfl
theorem pl56 : plB Tryz.prog 56 [(0, 1), (1, 1)] = true := by kernel_rfl
theorem eqi56 : EqI Tryz.prog 56 2 := by
  intro xs ys hx hy w
  match xs, ys, hx, hy with
  | [a0, a1], [b0, b1], _, _ =>
    refine ⟨fun x y => run_eqGuard_agg w .eql 56 x y _ _ (by kernel_rfl), fun x y => run_eqGuard_agg w .neq 56 x y _ _ (by kernel_rfl), ?_⟩
    have hf : (Tryz.prog.fieldsOf 56).toList = [⟨ "Lo", 3, 0, false, "", "", 0⟩, ⟨ "Hi", 3, 1, false, "", "", 8⟩] := by kernel_rfl
    rw [show (10000 : Nat) = 9998 + 1 + 1 from rfl, run_equalIn_struct w (9998 + 1) 56 _ _ (by kernel_rfl) (by kernel_rfl), hf]
    have u3 := Tryz.underlying3; 
    simp [Op.eqFields, part, isAgg, run_underlying u3, iW, run_equalIn_int, u3, Result.andThen]
    (repeat' split) <;> simp_all
theorem sz57 : szB Tryz.prog 57 true 4 = true := by kernel_rfl
theorem zr57 : zrB Tryz.prog 57 (.agg #[.int .i64 0, .int .i64 0, .int .i64 0, .int .i64 0]) := by unfold zrB; kernel_rfl
theorem ar57 : arB Tryz.prog 57 2 56 2 = true := by kernel_rfl
theorem sl63 : slB Tryz.prog 63 88 1 = true := by kernel_rfl
theorem isl63 : isSl Tryz.prog 63 = true := by kernel_rfl
theorem sz74 : szB Tryz.prog 74 true 2 = true := by kernel_rfl
theorem zr74 : zrB Tryz.prog 74 (.agg #[.int .i64 0, .int .i64 0]) := by unfold zrB; kernel_rfl
theorem ar74 : arB Tryz.prog 74 2 3 1 = true := by kernel_rfl
theorem sz88 : szB Tryz.prog 88 false 1 = true := by kernel_rfl
theorem by88 : byB Tryz.prog 88 24 = true := by kernel_rfl
theorem zr88 : zrB Tryz.prog 88 (.slice none 0 0) := by unfold zrB; kernel_rfl
theorem sl88 : slB Tryz.prog 88 3 1 = true := by kernel_rfl
theorem isl88 : isSl Tryz.prog 88 = true := by kernel_rfl
theorem sz127 : szB Tryz.prog 127 false 1 = true := by kernel_rfl
theorem by127 : byB Tryz.prog 127 4 = true := by kernel_rfl
theorem zr127 : zrB Tryz.prog 127 (.float .f32 0) := by unfold zrB; kernel_rfl
theorem flt127 : fltB Tryz.prog 127 .f32 = true := by kernel_rfl
theorem sz137 : szB Tryz.prog 137 true 5 = true := by kernel_rfl
theorem zr137 : zrB Tryz.prog 137 (.agg #[.int .i64 0, .int .i64 0, .int .i64 0, .int .i64 0, .int .i64 0]) := by unfold zrB; kernel_rfl
theorem fld137_0 : fldB Tryz.prog 137 0 0 = true := by kernel_rfl
theorem pl137 : plB Tryz.prog 137 [(0, 5)] = true := by kernel_rfl
theorem sz144 : szB Tryz.prog 144 false 1 = true := by kernel_rfl
theorem zr144 : zrB Tryz.prog 144 (.pointer none) := by unfold zrB; kernel_rfl
theorem sz148 : szB Tryz.prog 148 true 2 = true := by kernel_rfl
theorem zr148 : zrB Tryz.prog 148 (.agg #[.int .i64 0, .int .i64 0]) := by unfold zrB; kernel_rfl
theorem fld148_0 : fldB Tryz.prog 148 0 0 = true := by kernel_rfl
theorem fld148_1 : fldB Tryz.prog 148 1 1 = true := by kernel_rfl
theorem pl148 : plB Tryz.prog 148 [(0, 1), (1, 1)] = true := by kernel_rfl
theorem sz153 : szB Tryz.prog 153 false 1 = true := by kernel_rfl
theorem int153 : intB Tryz.prog 153 .u64 = true := by kernel_rfl
theorem flt155 : fltB Tryz.prog 155 .f64 = true := by kernel_rfl
theorem sz167 : szB Tryz.prog 167 false 1 = true := by kernel_rfl
theorem sz188 : szB Tryz.prog 188 true 6 = true := by kernel_rfl
theorem zr188 : zrB Tryz.prog 188 (.agg #[.int .i64 0, .int .i64 0, .int .i64 0, .int .i64 0, .int .i64 0, .slice none 0 0]) := by unfold zrB; kernel_rfl
theorem fld188_0 : fldB Tryz.prog 188 0 0 = true := by kernel_rfl
theorem fld188_1 : fldB Tryz.prog 188 1 5 = true := by kernel_rfl
theorem pl188 : plB Tryz.prog 188 [(0, 5), (5, 1)] = true := by kernel_rfl
theorem sz193 : szB Tryz.prog 193 false 1 = true := by kernel_rfl
theorem sl193 : slB Tryz.prog 193 233 61 = true := by kernel_rfl
theorem zr195 : zrB Tryz.prog 195 (.agg #[.int .i64 0, .int .i64 0, .int .i64 0, .int .i64 0, .int .i64 0, .slice none 0 0, .int .i64 0, .int .i64 0, .int .i64 0, .int .i64 0, .int .i64 0, .int .i64 0, .int .i64 0, .int .i64 0, .int .i64 0, .int .i64 0, .int .i64 0, .slice none 0 0]) := by unfold zrB; kernel_rfl
theorem fld195_0 : fldB Tryz.prog 195 0 0 = true := by kernel_rfl
theorem fld195_1 : fldB Tryz.prog 195 1 5 = true := by kernel_rfl
theorem fld195_2 : fldB Tryz.prog 195 2 16 = true := by kernel_rfl
theorem fld195_3 : fldB Tryz.prog 195 3 17 = true := by kernel_rfl
theorem pl195 : plB Tryz.prog 195 [(0, 5), (5, 11), (16, 1), (17, 1)] = true := by kernel_rfl
theorem sl219 : slB Tryz.prog 219 273 8 = true := by kernel_rfl
theorem sz221 : szB Tryz.prog 221 true 13 = true := by kernel_rfl
theorem zr221 : zrB Tryz.prog 221 (.agg #[.slice none 0 0, .int .i64 0, .int .i64 0, .int .i64 0, .int .i64 0, .int .i64 0, .int .i64 0, .int .i64 0, .int .i64 0, .int .i64 0, .int .i64 0, .slice none 0 0, .slice none 0 0]) := by unfold zrB; kernel_rfl
theorem fd221_0 : (match Tryz.prog.underlying 221 with | some (.struct fs) => (fs[0]?).map (fun fd => (fd.offset, fd.type)) | _ => none) = some (0, 28) := by kernel_rfl
theorem pl221 : plB Tryz.prog 221 [(0, 11), (11, 1), (12, 1)] = true := by kernel_rfl
theorem sz232 : szB Tryz.prog 232 true 61 = true := by kernel_rfl
theorem zr232 : zrB Tryz.prog 232 (.agg #[.complex .f32 0 0, .complex .f32 0 0, .complex .f32 0 0, .complex .f32 0 0, .complex .f32 0 0, .complex .f32 0 0, .complex .f32 0 0, .complex .f32 0 0, .complex .f32 0 0, .complex .f32 0 0, .complex .f32 0 0, .complex .f32 0 0, .complex .f32 0 0, .complex .f32 0 0, .complex .f32 0 0, .complex .f32 0 0, .complex .f32 0 0, .complex .f32 0 0, .complex .f32 0 0, .complex .f32 0 0, .complex .f32 0 0, .complex .f32 0 0, .complex .f32 0 0, .complex .f32 0 0, .complex .f32 0 0, .complex .f32 0 0, .complex .f32 0 0, .complex .f32 0 0, .complex .f32 0 0, .complex .f32 0 0, .complex .f32 0 0, .complex .f32 0 0, .complex .f32 0 0, .complex .f32 0 0, .complex .f32 0 0, .complex .f32 0 0, .complex .f32 0 0, .complex .f32 0 0, .complex .f32 0 0, .complex .f32 0 0, .complex .f32 0 0, .complex .f32 0 0, .complex .f32 0 0, .complex .f32 0 0, .complex .f32 0 0, .complex .f32 0 0, .complex .f32 0 0, .complex .f32 0 0, .complex .f32 0 0, .complex .f32 0 0, .complex .f32 0 0, .complex .f32 0 0, .complex .f32 0 0, .complex .f32 0 0, .complex .f32 0 0, .complex .f32 0 0, .complex .f32 0 0, .complex .f32 0 0, .complex .f32 0 0, .complex .f32 0 0, .complex .f32 0 0]) := by unfold zrB; kernel_rfl
theorem ar232 : arB Tryz.prog 232 61 167 1 = true := by kernel_rfl
theorem by233 : byB Tryz.prog 233 488 = true := by kernel_rfl
theorem zr233 : zrB Tryz.prog 233 (.agg #[.complex .f32 0 0, .complex .f32 0 0, .complex .f32 0 0, .complex .f32 0 0, .complex .f32 0 0, .complex .f32 0 0, .complex .f32 0 0, .complex .f32 0 0, .complex .f32 0 0, .complex .f32 0 0, .complex .f32 0 0, .complex .f32 0 0, .complex .f32 0 0, .complex .f32 0 0, .complex .f32 0 0, .complex .f32 0 0, .complex .f32 0 0, .complex .f32 0 0, .complex .f32 0 0, .complex .f32 0 0, .complex .f32 0 0, .complex .f32 0 0, .complex .f32 0 0, .complex .f32 0 0, .complex .f32 0 0, .complex .f32 0 0, .complex .f32 0 0, .complex .f32 0 0, .complex .f32 0 0, .complex .f32 0 0, .complex .f32 0 0, .complex .f32 0 0, .complex .f32 0 0, .complex .f32 0 0, .complex .f32 0 0, .complex .f32 0 0, .complex .f32 0 0, .complex .f32 0 0, .complex .f32 0 0, .complex .f32 0 0, .complex .f32 0 0, .complex .f32 0 0, .complex .f32 0 0, .complex .f32 0 0, .complex .f32 0 0, .complex .f32 0 0, .complex .f32 0 0, .complex .f32 0 0, .complex .f32 0 0, .complex .f32 0 0, .complex .f32 0 0, .complex .f32 0 0, .complex .f32 0 0, .complex .f32 0 0, .complex .f32 0 0, .complex .f32 0 0, .complex .f32 0 0, .complex .f32 0 0, .complex .f32 0 0, .complex .f32 0 0, .complex .f32 0 0]) := by unfold zrB; kernel_rfl
theorem ar233 : arB Tryz.prog 233 61 167 1 = true := by kernel_rfl
theorem sz239 : szB Tryz.prog 239 true 64 = true := by kernel_rfl
theorem ar239 : arB Tryz.prog 239 64 127 1 = true := by kernel_rfl
theorem sl241 : slB Tryz.prog 241 40 1 = true := by kernel_rfl
theorem isl241 : isSl Tryz.prog 241 = true := by kernel_rfl
theorem int263 : intB Tryz.prog 263 .u64 = true := by kernel_rfl
theorem zr273 : zrB Tryz.prog 273 (.agg #[.int .i64 0, .int .i64 0, .int .i64 0, .int .i64 0, .int .i64 0, .int .i64 0, .int .i64 0, .int .i64 0]) := by unfold zrB; kernel_rfl
theorem pl273 : plB Tryz.prog 273 [(0, 1), (1, 2), (3, 2), (5, 1), (6, 1), (7, 1)] = true := by kernel_rfl
theorem sz280 : szB Tryz.prog 280 true 11 = true := by kernel_rfl
theorem zr280 : zrB Tryz.prog 280 (.agg #[.slice none 0 0, .int .i64 0, .int .i64 0, .int .i64 0, .int .i64 0, .int .i64 0, .int .i64 0, .int .i64 0, .int .i64 0, .int .i64 0, .int .i64 0]) := by unfold zrB; kernel_rfl
theorem fld280_0 : fldB Tryz.prog 280 0 0 = true := by kernel_rfl
theorem pl280 : plB Tryz.prog 280 [(0, 11)] = true := by kernel_rfl
theorem zr285 : zrB Tryz.prog 285 (.agg #[.int .i64 0, .int .i64 0, .int .i64 0, .int .i64 0, .int .i64 0, .int .i64 0, .int .i64 0, .int .i64 0, .int .i64 0, .int .i64 0, .int .i64 0, .int .i64 0, .int .i64 0, .int .i64 0]) := by unfold zrB; kernel_rfl
theorem fld285_0 : fldB Tryz.prog 285 0 0 = true := by kernel_rfl
theorem fld285_1 : fldB Tryz.prog 285 1 4 = true := by kernel_rfl
theorem fld285_2 : fldB Tryz.prog 285 2 8 = true := by kernel_rfl
theorem fld285_3 : fldB Tryz.prog 285 3 10 = true := by kernel_rfl
theorem fld285_4 : fldB Tryz.prog 285 4 12 = true := by kernel_rfl
theorem pl285 : plB Tryz.prog 285 [(0, 4), (4, 4), (8, 2), (10, 2), (12, 2)] = true := by kernel_rfl
theorem sz296 : szB Tryz.prog 296 true 64 = true := by kernel_rfl
theorem zr296 : zrB Tryz.prog 296 (.agg #[.int .i64 0, .int .i64 0, .int .i64 0, .int .i64 0, .int .i64 0, .int .i64 0, .int .i64 0, .int .i64 0, .int .i64 0, .int .i64 0, .int .i64 0, .int .i64 0, .int .i64 0, .int .i64 0, .int .i64 0, .int .i64 0, .int .i64 0, .int .i64 0, .int .i64 0, .int .i64 0, .int .i64 0, .int .i64 0, .int .i64 0, .int .i64 0, .int .i64 0, .int .i64 0, .int .i64 0, .int .i64 0, .int .i64 0, .int .i64 0, .int .i64 0, .int .i64 0, .int .i64 0, .int .i64 0, .int .i64 0, .int .i64 0, .int .i64 0, .int .i64 0, .int .i64 0, .int .i64 0, .int .i64 0, .int .i64 0, .int .i64 0, .int .i64 0, .int .i64 0, .int .i64 0, .int .i64 0, .int .i64 0, .int .i64 0, .int .i64 0, .int .i64 0, .int .i64 0, .int .i64 0, .int .i64 0, .int .i64 0, .int .i64 0, .int .i64 0, .int .i64 0, .int .i64 0, .int .i64 0, .int .i64 0, .int .i64 0, .int .i64 0, .int .i64 0]) := by unfold zrB; kernel_rfl
theorem ar296 : arB Tryz.prog 296 64 3 1 = true := by kernel_rfl
theorem zr311 : zrB Tryz.prog 311 (.agg #[.int .i64 0, .int .i64 0, .int .i64 0, .int .i64 0, .int .i64 0, .int .i64 0]) := by unfold zrB; kernel_rfl
theorem fld311_0 : fldB Tryz.prog 311 0 0 = true := by kernel_rfl
theorem fld311_1 : fldB Tryz.prog 311 1 1 = true := by kernel_rfl
theorem fld311_2 : fldB Tryz.prog 311 2 2 = true := by kernel_rfl
theorem fld311_3 : fldB Tryz.prog 311 3 3 = true := by kernel_rfl
theorem fld311_4 : fldB Tryz.prog 311 4 4 = true := by kernel_rfl
theorem fld311_5 : fldB Tryz.prog 311 5 5 = true := by kernel_rfl
theorem pl311 : plB Tryz.prog 311 [(0, 1), (1, 1), (2, 1), (3, 1), (4, 1), (5, 1)] = true := by kernel_rfl
theorem sz313 : szB Tryz.prog 313 true 6 = true := by kernel_rfl
theorem zr313 : zrB Tryz.prog 313 (.agg #[.int .i64 0, .int .i64 0, .int .i64 0, .int .i64 0, .int .i64 0, .int .i64 0]) := by unfold zrB; kernel_rfl
theorem fld313_0 : fldB Tryz.prog 313 0 0 = true := by kernel_rfl
theorem pl313 : plB Tryz.prog 313 [(0, 6)] = true := by kernel_rfl
theorem sz323 : szB Tryz.prog 323 true 4 = true := by kernel_rfl
theorem zr323 : zrB Tryz.prog 323 (.agg #[.int .i64 0, .int .i64 0, .int .i64 0, .int .i64 0]) := by unfold zrB; kernel_rfl
theorem ar323 : arB Tryz.prog 323 4 3 1 = true := by kernel_rfl
theorem sz336 : szB Tryz.prog 336 true 2 = true := by kernel_rfl
theorem zr336 : zrB Tryz.prog 336 (.agg #[.int .u64 0, .int .u64 0]) := by unfold zrB; kernel_rfl
theorem fld336_0 : fldB Tryz.prog 336 0 0 = true := by kernel_rfl
theorem fld336_1 : fldB Tryz.prog 336 1 1 = true := by kernel_rfl
theorem pl336 : plB Tryz.prog 336 [(0, 1), (1, 1)] = true := by kernel_rfl
theorem eqk336 : EqK Tryz.prog .u64 336 2 := by
  intro xs ys hx hy w
  match xs, ys, hx, hy with
  | [a0, a1], [b0, b1], _, _ =>
    refine ⟨fun x y => run_eqGuard_agg w .eql 336 x y _ _ (by kernel_rfl), fun x y => run_eqGuard_agg w .neq 336 x y _ _ (by kernel_rfl), ?_⟩
    have hf : (Tryz.prog.fieldsOf 336).toList = [⟨ "high", 153, 0, false, "", "couplant/ray", 0⟩, ⟨ "low", 153, 1, false, "", "couplant/ray", 8⟩] := by kernel_rfl
    rw [show (10000 : Nat) = 9998 + 1 + 1 from rfl, run_equalIn_struct w (9998 + 1) 336 _ _ (by kernel_rfl) (by kernel_rfl), hf]
    have u153 := Tryz.underlying153; 
    simp [Op.eqFields, part, isAgg, run_underlying u153, kW, run_equalIn_int, u153, Result.andThen]
    (repeat' split) <;> simp_all
end Go.Proofs.YthlngfpieemknaaGreat.Am
