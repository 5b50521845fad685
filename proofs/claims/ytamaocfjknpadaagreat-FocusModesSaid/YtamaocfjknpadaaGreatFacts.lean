/- Closed facts of the program's types and functions. Conditions: none. -/
import Derived.Test.YtamaocfjknpadaaGreatProg
import Derived.Test.YtamaocfjknpadaaGreatAmD
import Derived.ChangeKeysEq
set_option linter.unusedVariables false
set_option linter.unusedSimpArgs false
namespace Go.Proofs.YtamaocfjknpadaaGreat.Am
open Go
theorem mixed : Tryz.prog.follows .mixedOrders = true := by kernel_rfl
theorem xa {w0 : Cx} {st : St} {l : List Oper} {id : Nat} {draw : Bool} {R : Exit → St → Prop} (n : Nat) (hW : RegW Tryz.prog w0 st l n (l.take n) 0 (fun _ => .dead) st (fun st' => Aops Tryz.prog w0 l (l.drop n) R st')) (h : (regB l n st.n && decide (n ≤ l.length) && (!draw || tailOk l n)) = true := by kernel_rfl) : Awp Tryz.prog w0 (.region id l.toArray draw) R st := awp_region n mixed h hW
theorem en18 : enB Tryz.prog 18 = true := by kernel_rfl
theorem en19 : enB Tryz.prog 19 = true := by kernel_rfl
theorem en20 : enB Tryz.prog 20 = true := by kernel_rfl
theorem en21 : enB Tryz.prog 21 = true := by kernel_rfl
theorem en22 : enB Tryz.prog 22 = true := by kernel_rfl
theorem en23 : enB Tryz.prog 23 = true := by kernel_rfl
theorem en24 : enB Tryz.prog 24 = true := by kernel_rfl
theorem en26 : enB Tryz.prog 26 = true := by kernel_rfl
theorem en28 : enB Tryz.prog 28 = true := by kernel_rfl
theorem en29 : enB Tryz.prog 29 = true := by kernel_rfl
theorem en31 : enB Tryz.prog 31 = true := by kernel_rfl
theorem en35 : enB Tryz.prog 35 = true := by kernel_rfl
theorem en39 : enB Tryz.prog 39 = true := by kernel_rfl
theorem en40 : enB Tryz.prog 40 = true := by kernel_rfl
theorem en46 : enB Tryz.prog 46 = true := by kernel_rfl
theorem en47 : enB Tryz.prog 47 = true := by kernel_rfl
theorem en48 : enB Tryz.prog 48 = true := by kernel_rfl
theorem en49 : enB Tryz.prog 49 = true := by kernel_rfl
theorem en55 : enB Tryz.prog 55 = true := by kernel_rfl
theorem en56 : enB Tryz.prog 56 = true := by kernel_rfl
theorem en59 : enB Tryz.prog 59 = true := by kernel_rfl
theorem en62 : enB Tryz.prog 62 = true := by kernel_rfl
theorem en74 : enB Tryz.prog 74 = true := by kernel_rfl
theorem en76 : enB Tryz.prog 76 = true := by kernel_rfl
theorem en79 : enB Tryz.prog 79 = true := by kernel_rfl
theorem en82 : enB Tryz.prog 82 = true := by kernel_rfl
theorem en83 : enB Tryz.prog 83 = true := by kernel_rfl
theorem en84 : enB Tryz.prog 84 = true := by kernel_rfl
theorem en85 : enB Tryz.prog 85 = true := by kernel_rfl
theorem en86 : enB Tryz.prog 86 = true := by kernel_rfl
theorem en87 : enB Tryz.prog 87 = true := by kernel_rfl
theorem en88 : enB Tryz.prog 88 = true := by kernel_rfl
theorem en89 : enB Tryz.prog 89 = true := by kernel_rfl
theorem en90 : enB Tryz.prog 90 = true := by kernel_rfl
theorem en91 : enB Tryz.prog 91 = true := by kernel_rfl
theorem en92 : enB Tryz.prog 92 = true := by kernel_rfl
theorem en93 : enB Tryz.prog 93 = true := by kernel_rfl
theorem en94 : enB Tryz.prog 94 = true := by kernel_rfl
theorem en95 : enB Tryz.prog 95 = true := by kernel_rfl
theorem en96 : enB Tryz.prog 96 = true := by kernel_rfl
theorem en97 : enB Tryz.prog 97 = true := by kernel_rfl
theorem en99 : enB Tryz.prog 99 = true := by kernel_rfl
theorem en100 : enB Tryz.prog 100 = true := by kernel_rfl
theorem en101 : enB Tryz.prog 101 = true := by kernel_rfl
theorem en102 : enB Tryz.prog 102 = true := by kernel_rfl
theorem en103 : enB Tryz.prog 103 = true := by kernel_rfl
theorem en104 : enB Tryz.prog 104 = true := by kernel_rfl
theorem en105 : enB Tryz.prog 105 = true := by kernel_rfl
theorem en107 : enB Tryz.prog 107 = true := by kernel_rfl
theorem en108 : enB Tryz.prog 108 = true := by kernel_rfl
theorem en109 : enB Tryz.prog 109 = true := by kernel_rfl
theorem en111 : enB Tryz.prog 111 = true := by kernel_rfl
theorem en112 : enB Tryz.prog 112 = true := by kernel_rfl
theorem en114 : enB Tryz.prog 114 = true := by kernel_rfl
theorem en115 : enB Tryz.prog 115 = true := by kernel_rfl
theorem en116 : enB Tryz.prog 116 = true := by kernel_rfl
theorem en117 : enB Tryz.prog 117 = true := by kernel_rfl
theorem en118 : enB Tryz.prog 118 = true := by kernel_rfl
theorem en122 : enB Tryz.prog 122 = true := by kernel_rfl
theorem en123 : enB Tryz.prog 123 = true := by kernel_rfl
theorem en124 : enB Tryz.prog 124 = true := by kernel_rfl
theorem en129 : enB Tryz.prog 129 = true := by kernel_rfl
theorem en132 : enB Tryz.prog 132 = true := by kernel_rfl
theorem en133 : enB Tryz.prog 133 = true := by kernel_rfl
theorem en134 : enB Tryz.prog 134 = true := by kernel_rfl
theorem en135 : enB Tryz.prog 135 = true := by kernel_rfl
theorem en141 : enB Tryz.prog 141 = true := by kernel_rfl
theorem en149 : enB Tryz.prog 149 = true := by kernel_rfl
theorem en151 : enB Tryz.prog 151 = true := by kernel_rfl
theorem en155 : enB Tryz.prog 155 = true := by kernel_rfl
theorem en159 : enB Tryz.prog 159 = true := by kernel_rfl
theorem en160 : enB Tryz.prog 160 = true := by kernel_rfl
theorem en161 : enB Tryz.prog 161 = true := by kernel_rfl
theorem en162 : enB Tryz.prog 162 = true := by kernel_rfl
theorem en163 : enB Tryz.prog 163 = true := by kernel_rfl
theorem en164 : enB Tryz.prog 164 = true := by kernel_rfl
theorem en165 : enB Tryz.prog 165 = true := by kernel_rfl
theorem en166 : enB Tryz.prog 166 = true := by kernel_rfl
theorem en167 : enB Tryz.prog 167 = true := by kernel_rfl
theorem en168 : enB Tryz.prog 168 = true := by kernel_rfl
theorem en169 : enB Tryz.prog 169 = true := by kernel_rfl
theorem en170 : enB Tryz.prog 170 = true := by kernel_rfl
theorem en171 : enB Tryz.prog 171 = true := by kernel_rfl
theorem en172 : enB Tryz.prog 172 = true := by kernel_rfl
theorem en173 : enB Tryz.prog 173 = true := by kernel_rfl
theorem en175 : enB Tryz.prog 175 = true := by kernel_rfl
theorem en176 : enB Tryz.prog 176 = true := by kernel_rfl
theorem en177 : enB Tryz.prog 177 = true := by kernel_rfl
theorem en178 : enB Tryz.prog 178 = true := by kernel_rfl
theorem en179 : enB Tryz.prog 179 = true := by kernel_rfl
theorem en180 : enB Tryz.prog 180 = true := by kernel_rfl
theorem en181 : enB Tryz.prog 181 = true := by kernel_rfl
theorem en182 : enB Tryz.prog 182 = true := by kernel_rfl
theorem en183 : enB Tryz.prog 183 = true := by kernel_rfl
theorem en184 : enB Tryz.prog 184 = true := by kernel_rfl
theorem en185 : enB Tryz.prog 185 = true := by kernel_rfl
theorem en186 : enB Tryz.prog 186 = true := by kernel_rfl
theorem en187 : enB Tryz.prog 187 = true := by kernel_rfl
theorem en188 : enB Tryz.prog 188 = true := by kernel_rfl
theorem en189 : enB Tryz.prog 189 = true := by kernel_rfl
theorem en194 : enB Tryz.prog 194 = true := by kernel_rfl
theorem en216 : enB Tryz.prog 216 = true := by kernel_rfl
theorem en218 : enB Tryz.prog 218 = true := by kernel_rfl
theorem en228 : enB Tryz.prog 228 = true := by kernel_rfl
theorem en229 : enB Tryz.prog 229 = true := by kernel_rfl
theorem en232 : enB Tryz.prog 232 = true := by kernel_rfl
theorem en233 : enB Tryz.prog 233 = true := by kernel_rfl
theorem en234 : enB Tryz.prog 234 = true := by kernel_rfl
theorem en235 : enB Tryz.prog 235 = true := by kernel_rfl
theorem en236 : enB Tryz.prog 236 = true := by kernel_rfl
theorem en237 : enB Tryz.prog 237 = true := by kernel_rfl
theorem en238 : enB Tryz.prog 238 = true := by kernel_rfl
theorem en239 : enB Tryz.prog 239 = true := by kernel_rfl
theorem en240 : enB Tryz.prog 240 = true := by kernel_rfl
theorem en241 : enB Tryz.prog 241 = true := by kernel_rfl
theorem en242 : enB Tryz.prog 242 = true := by kernel_rfl
theorem en243 : enB Tryz.prog 243 = true := by kernel_rfl
theorem en244 : enB Tryz.prog 244 = true := by kernel_rfl
theorem en245 : enB Tryz.prog 245 = true := by kernel_rfl
theorem en246 : enB Tryz.prog 246 = true := by kernel_rfl
theorem en247 : enB Tryz.prog 247 = true := by kernel_rfl
theorem en256 : enB Tryz.prog 256 = true := by kernel_rfl
theorem en261 : enB Tryz.prog 261 = true := by kernel_rfl
theorem en266 : enB Tryz.prog 266 = true := by kernel_rfl
theorem en267 : enB Tryz.prog 267 = true := by kernel_rfl
theorem en268 : enB Tryz.prog 268 = true := by kernel_rfl
theorem en269 : enB Tryz.prog 269 = true := by kernel_rfl
theorem en270 : enB Tryz.prog 270 = true := by kernel_rfl
theorem en271 : enB Tryz.prog 271 = true := by kernel_rfl
theorem en272 : enB Tryz.prog 272 = true := by kernel_rfl
theorem en273 : enB Tryz.prog 273 = true := by kernel_rfl
theorem en274 : enB Tryz.prog 274 = true := by kernel_rfl
theorem en275 : enB Tryz.prog 275 = true := by kernel_rfl
theorem en278 : enB Tryz.prog 278 = true := by kernel_rfl
theorem en279 : enB Tryz.prog 279 = true := by kernel_rfl
theorem en280 : enB Tryz.prog 280 = true := by kernel_rfl
theorem en281 : enB Tryz.prog 281 = true := by kernel_rfl
theorem en282 : enB Tryz.prog 282 = true := by kernel_rfl
theorem en283 : enB Tryz.prog 283 = true := by kernel_rfl
theorem en284 : enB Tryz.prog 284 = true := by kernel_rfl
theorem en285 : enB Tryz.prog 285 = true := by kernel_rfl
theorem en286 : enB Tryz.prog 286 = true := by kernel_rfl
theorem en287 : enB Tryz.prog 287 = true := by kernel_rfl
theorem en288 : enB Tryz.prog 288 = true := by kernel_rfl
theorem en289 : enB Tryz.prog 289 = true := by kernel_rfl
theorem en290 : enB Tryz.prog 290 = true := by kernel_rfl
theorem en291 : enB Tryz.prog 291 = true := by kernel_rfl
theorem en292 : enB Tryz.prog 292 = true := by kernel_rfl
theorem en293 : enB Tryz.prog 293 = true := by kernel_rfl
theorem en294 : enB Tryz.prog 294 = true := by kernel_rfl
theorem en295 : enB Tryz.prog 295 = true := by kernel_rfl
theorem en296 : enB Tryz.prog 296 = true := by kernel_rfl
theorem en297 : enB Tryz.prog 297 = true := by kernel_rfl
theorem en298 : enB Tryz.prog 298 = true := by kernel_rfl
theorem en299 : enB Tryz.prog 299 = true := by kernel_rfl
theorem en300 : enB Tryz.prog 300 = true := by kernel_rfl
theorem en301 : enB Tryz.prog 301 = true := by kernel_rfl
theorem en302 : enB Tryz.prog 302 = true := by kernel_rfl
theorem en303 : enB Tryz.prog 303 = true := by kernel_rfl
theorem en304 : enB Tryz.prog 304 = true := by kernel_rfl
theorem en305 : enB Tryz.prog 305 = true := by kernel_rfl
theorem en306 : enB Tryz.prog 306 = true := by kernel_rfl
theorem en307 : enB Tryz.prog 307 = true := by kernel_rfl
theorem en308 : enB Tryz.prog 308 = true := by kernel_rfl
theorem en309 : enB Tryz.prog 309 = true := by kernel_rfl
theorem en310 : enB Tryz.prog 310 = true := by kernel_rfl
theorem sz3 : szB Tryz.prog 3 false 1 = true := by kernel_rfl
theorem by3 : byB Tryz.prog 3 8 = true := by kernel_rfl
theorem zr3 : zrB Tryz.prog 3 (.int .i64 0) := by unfold zrB; kernel_rfl
theorem int3 : intB Tryz.prog 3 .i64 = true := by kernel_rfl
theorem sz4 : szB Tryz.prog 4 false 1 = true := by kernel_rfl
theorem zr4 : zrB Tryz.prog 4 (.bool false) := by unfold zrB; kernel_rfl
theorem sz22 : szB Tryz.prog 22 false 1 = true := by kernel_rfl
theorem sl22 : slB Tryz.prog 22 33 2 = true := by kernel_rfl
theorem isl22 : isSl Tryz.prog 22 = true := by kernel_rfl
theorem sz24 : szB Tryz.prog 24 true 4 = true := by kernel_rfl
theorem zr24 : zrB Tryz.prog 24 (.agg #[.int .i64 0, .int .i64 0, .int .i64 0, .int .i64 0]) := by unfold zrB; kernel_rfl
theorem fld24_0 : fldB Tryz.prog 24 0 0 = true := by kernel_rfl
theorem fld24_1 : fldB Tryz.prog 24 1 1 = true := by kernel_rfl
theorem fld24_2 : fldB Tryz.prog 24 2 2 = true := by kernel_rfl
theorem fld24_3 : fldB Tryz.prog 24 3 3 = true := by kernel_rfl
theorem pl24 : plB Tryz.prog 24 [(0, 1), (1, 1), (2, 1), (3, 1)] = true := by kernel_rfl
theorem sz26 : szB Tryz.prog 26 true 2 = true := by kernel_rfl
theorem zr26 : zrB Tryz.prog 26 (.agg #[.int .i64 0, .int .i64 0]) := by unfold zrB; kernel_rfl
theorem fld26_0 : fldB Tryz.prog 26 0 0 = true := by kernel_rfl
theorem fld26_1 : fldB Tryz.prog 26 1 1 = true := by kernel_rfl
theorem pl26 : plB Tryz.prog 26 [(0, 1), (1, 1)] = true := by kernel_rfl
theorem sz28 : szB Tryz.prog 28 true 11 = true := by kernel_rfl
theorem zr28 : zrB Tryz.prog 28 (.agg #[.slice none 0 0, .int .i64 0, .int .i64 0, .int .i64 0, .int .i64 0, .int .i64 0, .int .i64 0, .int .i64 0, .int .i64 0, .int .i64 0, .int .i64 0]) := by unfold zrB; kernel_rfl
theorem fld28_0 : fldB Tryz.prog 28 0 0 = true := by kernel_rfl
theorem fld28_1 : fldB Tryz.prog 28 1 1 = true := by kernel_rfl
theorem fld28_2 : fldB Tryz.prog 28 2 5 = true := by kernel_rfl
theorem fld28_3 : fldB Tryz.prog 28 3 9 = true := by kernel_rfl
theorem pl28 : plB Tryz.prog 28 [(0, 1), (1, 4), (5, 4), (9, 2)] = true := by kernel_rfl
theorem sz29 : szB Tryz.prog 29 false 1 = true := by kernel_rfl
theorem sl29 : slB Tryz.prog 29 117 1 = true := by kernel_rfl
theorem isl29 : isSl Tryz.prog 29 = true := by kernel_rfl
theorem sz31 : szB Tryz.prog 31 true 2 = true := by kernel_rfl
theorem zr31 : zrB Tryz.prog 31 (.agg #[.int .i64 0, .slice none 0 0]) := by unfold zrB; kernel_rfl
theorem fld31_0 : fldB Tryz.prog 31 0 0 = true := by kernel_rfl
theorem fld31_1 : fldB Tryz.prog 31 1 1 = true := by kernel_rfl
theorem pl31 : plB Tryz.prog 31 [(0, 1), (1, 1)] = true := by kernel_rfl
theorem sz33 : szB Tryz.prog 33 true 2 = true := by kernel_rfl
theorem by33 : byB Tryz.prog 33 16 = true := by kernel_rfl
theorem zr33 : zrB Tryz.prog 33 (.agg #[.int .i64 0, .int .i64 0]) := by unfold zrB; kernel_rfl
theorem fld33_0 : fldB Tryz.prog 33 0 0 = true := by kernel_rfl
theorem fld33_1 : fldB Tryz.prog 33 1 1 = true := by kernel_rfl
theorem fd33_1 : (match Tryz.prog.underlying 33 with | some (.struct fs) => (fs[1]?).map (fun fd => (fd.offset, fd.type)) | _ => none) = some (1, 3) := by kernel_rfl
theorem pl33 : plB Tryz.prog 33 [(0, 1), (1, 1)] = true := by kernel_rfl
theorem sz35 : szB Tryz.prog 35 true 5 = true := by kernel_rfl
theorem zr35 : zrB Tryz.prog 35 (.agg #[.int .i64 0, .int .i64 0, .int .i64 0, .int .i64 0, .int .i64 0]) := by unfold zrB; kernel_rfl
theorem fld35_0 : fldB Tryz.prog 35 0 0 = true := by kernel_rfl
theorem fld35_1 : fldB Tryz.prog 35 1 2 = true := by kernel_rfl
theorem fld35_2 : fldB Tryz.prog 35 2 3 = true := by kernel_rfl
theorem fld35_3 : fldB Tryz.prog 35 3 4 = true := by kernel_rfl
theorem pl35 : plB Tryz.prog 35 [(0, 2), (2, 1), (3, 1), (4, 1)] = true := by kernel_rfl
theorem sz37 : szB Tryz.prog 37 true 18 = true := by kernel_rfl
theorem zr37 : zrB Tryz.prog 37 (.agg #[.slice none 0 0, .int .i64 0, .int .i64 0, .int .i64 0, .int .i64 0, .int .i64 0, .int .i64 0, .int .i64 0, .int .i64 0, .int .i64 0, .int .i64 0, .int .i64 0, .slice none 0 0, .int .i64 0, .int .i64 0, .int .i64 0, .int .i64 0, .int .i64 0]) := by unfold zrB; kernel_rfl
theorem fld37_0 : fldB Tryz.prog 37 0 0 = true := by kernel_rfl
theorem fld37_1 : fldB Tryz.prog 37 1 11 = true := by kernel_rfl
theorem fld37_2 : fldB Tryz.prog 37 2 13 = true := by kernel_rfl
theorem pl37 : plB Tryz.prog 37 [(0, 11), (11, 2), (13, 5)] = true := by kernel_rfl
theorem sz40 : szB Tryz.prog 40 false 1 = true := by kernel_rfl
theorem zr40 : zrB Tryz.prog 40 (.int .i64 0) := by unfold zrB; kernel_rfl
theorem sz46 : szB Tryz.prog 46 false 1 = true := by kernel_rfl
theorem by46 : byB Tryz.prog 46 16 = true := by kernel_rfl
theorem zr46 : zrB Tryz.prog 46 (.complex .f64 0 0) := by unfold zrB; kernel_rfl
theorem sz56 : szB Tryz.prog 56 true 2 = true := by kernel_rfl
theorem zr56 : zrB Tryz.prog 56 (.agg #[.int .i64 0, .int .i64 0]) := by unfold zrB; kernel_rfl
theorem fld56_0 : fldB Tryz.prog 56 0 0 = true := by kernel_rfl
theorem fld56_1 : fldB Tryz.prog 56 1 1 = true := by kernel_rfl
theorem pl56 : plB Tryz.prog 56 [(0, 1), (1, 1)] = true := by kernel_rfl
theorem eqi56 : EqI Tryz.prog 56 2 := by
  intro xs ys hx hy w
  match xs, ys, hx, hy with
  | [a0, a1], [b0, b1], _, _ =>
    refine ⟨fun x y => run_eqGuard_agg w .eql 56 x y _ _ (by kernel_rfl), fun x y => run_eqGuard_agg w .neq 56 x y _ _ (by kernel_rfl), ?_⟩
    have hf : (Tryz.prog.fieldsOf 56).toList = [⟨ "Lo", 3, 0, false, "", "", 0⟩, ⟨ "Hi", 3, 1, false, "", "", 8⟩] := by kernel_rfl
    rw [show (10000 : Nat) = 9998 + 1 + 1 from rfl, run_equalIn_struct w (9998 + 1) 56 _ _ (by kernel_rfl) (by kernel_rfl), hf]
    have u3 := Tryz.underlying3; 
    simp [Op.eqFields, part, isAgg, run_underlying u3, iW, run_equalIn_int, u3, Result.andThen]
    (repeat' split) <;> simp_all
theorem sz57 : szB Tryz.prog 57 true 4 = true := by kernel_rfl
theorem zr57 : zrB Tryz.prog 57 (.agg #[.int .i64 0, .int .i64 0, .int .i64 0, .int .i64 0]) := by unfold zrB; kernel_rfl
theorem ar57 : arB Tryz.prog 57 2 56 2 = true := by kernel_rfl
theorem sz63 : szB Tryz.prog 63 true 2 = true := by kernel_rfl
theorem by63 : byB Tryz.prog 63 16 = true := by kernel_rfl
theorem zr63 : zrB Tryz.prog 63 (.agg #[.int .i64 0, .int .i64 0]) := by unfold zrB; kernel_rfl
theorem ar63 : arB Tryz.prog 63 2 3 1 = true := by kernel_rfl
theorem sl72 : slB Tryz.prog 72 46 1 = true := by kernel_rfl
theorem isl72 : isSl Tryz.prog 72 = true := by kernel_rfl
theorem sz77 : szB Tryz.prog 77 false 1 = true := by kernel_rfl
theorem zr77 : zrB Tryz.prog 77 (.slice none 0 0) := by unfold zrB; kernel_rfl
theorem sl77 : slB Tryz.prog 77 3 1 = true := by kernel_rfl
theorem isl77 : isSl Tryz.prog 77 = true := by kernel_rfl
theorem sl87 : slB Tryz.prog 87 203 8 = true := by kernel_rfl
theorem isl87 : isSl Tryz.prog 87 = true := by kernel_rfl
theorem sz117 : szB Tryz.prog 117 false 1 = true := by kernel_rfl
theorem by117 : byB Tryz.prog 117 4 = true := by kernel_rfl
theorem zr117 : zrB Tryz.prog 117 (.float .f32 0) := by unfold zrB; kernel_rfl
theorem flt117 : fltB Tryz.prog 117 .f32 = true := by kernel_rfl
theorem sl120 : slB Tryz.prog 120 77 1 = true := by kernel_rfl
theorem isl120 : isSl Tryz.prog 120 = true := by kernel_rfl
theorem sl128 : slB Tryz.prog 128 135 8 = true := by kernel_rfl
theorem sz130 : szB Tryz.prog 130 true 13 = true := by kernel_rfl
theorem zr130 : zrB Tryz.prog 130 (.agg #[.slice none 0 0, .int .i64 0, .int .i64 0, .int .i64 0, .int .i64 0, .int .i64 0, .int .i64 0, .int .i64 0, .int .i64 0, .int .i64 0, .int .i64 0, .slice none 0 0, .slice none 0 0]) := by unfold zrB; kernel_rfl
theorem fd130_0 : (match Tryz.prog.underlying 130 with | some (.struct fs) => (fs[0]?).map (fun fd => (fd.offset, fd.type)) | _ => none) = some (0, 28) := by kernel_rfl
theorem pl130 : plB Tryz.prog 130 [(0, 11), (11, 1), (12, 1)] = true := by kernel_rfl
theorem zr135 : zrB Tryz.prog 135 (.agg #[.int .i64 0, .int .i64 0, .int .i64 0, .int .i64 0, .int .i64 0, .int .i64 0, .int .i64 0, .int .i64 0]) := by unfold zrB; kernel_rfl
theorem pl135 : plB Tryz.prog 135 [(0, 1), (1, 2), (3, 2), (5, 1), (6, 1), (7, 1)] = true := by kernel_rfl
theorem sl140 : slB Tryz.prog 140 63 2 = true := by kernel_rfl
theorem isl140 : isSl Tryz.prog 140 = true := by kernel_rfl
theorem sz150 : szB Tryz.prog 150 true 5 = true := by kernel_rfl
theorem zr150 : zrB Tryz.prog 150 (.agg #[.int .i64 0, .int .i64 0, .int .i64 0, .int .i64 0, .int .i64 0]) := by unfold zrB; kernel_rfl
theorem fld150_0 : fldB Tryz.prog 150 0 0 = true := by kernel_rfl
theorem pl150 : plB Tryz.prog 150 [(0, 5)] = true := by kernel_rfl
theorem sz156 : szB Tryz.prog 156 false 1 = true := by kernel_rfl
theorem zr156 : zrB Tryz.prog 156 (.pointer none) := by unfold zrB; kernel_rfl
theorem sz160 : szB Tryz.prog 160 true 2 = true := by kernel_rfl
theorem by160 : byB Tryz.prog 160 16 = true := by kernel_rfl
theorem zr160 : zrB Tryz.prog 160 (.agg #[.int .i64 0, .int .i64 0]) := by unfold zrB; kernel_rfl
theorem fld160_0 : fldB Tryz.prog 160 0 0 = true := by kernel_rfl
theorem fld160_1 : fldB Tryz.prog 160 1 1 = true := by kernel_rfl
theorem pl160 : plB Tryz.prog 160 [(0, 1), (1, 1)] = true := by kernel_rfl
theorem sz165 : szB Tryz.prog 165 false 1 = true := by kernel_rfl
theorem int165 : intB Tryz.prog 165 .u64 = true := by kernel_rfl
theorem flt167 : fltB Tryz.prog 167 .f64 = true := by kernel_rfl
theorem sz178 : szB Tryz.prog 178 false 1 = true := by kernel_rfl
theorem sl189 : slB Tryz.prog 189 160 2 = true := by kernel_rfl
theorem isl189 : isSl Tryz.prog 189 = true := by kernel_rfl
theorem sz193 : szB Tryz.prog 193 true 6 = true := by kernel_rfl
theorem zr193 : zrB Tryz.prog 193 (.agg #[.int .i64 0, .int .i64 0, .int .i64 0, .int .i64 0, .int .i64 0, .slice none 0 0]) := by unfold zrB; kernel_rfl
theorem fld193_0 : fldB Tryz.prog 193 0 0 = true := by kernel_rfl
theorem fld193_1 : fldB Tryz.prog 193 1 5 = true := by kernel_rfl
theorem pl193 : plB Tryz.prog 193 [(0, 5), (5, 1)] = true := by kernel_rfl
theorem sz200 : szB Tryz.prog 200 false 1 = true := by kernel_rfl
theorem sl200 : slB Tryz.prog 200 273 61 = true := by kernel_rfl
theorem zr202 : zrB Tryz.prog 202 (.agg #[.int .i64 0, .int .i64 0, .int .i64 0, .int .i64 0, .int .i64 0, .slice none 0 0, .int .i64 0, .int .i64 0, .int .i64 0, .int .i64 0, .int .i64 0, .int .i64 0, .int .i64 0, .int .i64 0, .int .i64 0, .int .i64 0, .int .i64 0, .slice none 0 0]) := by unfold zrB; kernel_rfl
theorem fld202_0 : fldB Tryz.prog 202 0 0 = true := by kernel_rfl
theorem fld202_1 : fldB Tryz.prog 202 1 5 = true := by kernel_rfl
theorem fld202_2 : fldB Tryz.prog 202 2 16 = true := by kernel_rfl
theorem fld202_3 : fldB Tryz.prog 202 3 17 = true := by kernel_rfl
theorem pl202 : plB Tryz.prog 202 [(0, 5), (5, 11), (16, 1), (17, 1)] = true := by kernel_rfl
theorem sz203 : szB Tryz.prog 203 true 8 = true := by kernel_rfl
theorem by203 : byB Tryz.prog 203 64 = true := by kernel_rfl
theorem zr203 : zrB Tryz.prog 203 (.agg #[.int .i64 0, .int .i64 0, .int .i64 0, .int .i64 0, .int .i64 0, .int .i64 0, .int .i64 0, .int .i64 0]) := by unfold zrB; kernel_rfl
theorem ar203 : arB Tryz.prog 203 2 24 4 = true := by kernel_rfl
theorem sz236 : szB Tryz.prog 236 true 64 = true := by kernel_rfl
theorem zr236 : zrB Tryz.prog 236 (.agg #[.float .f32 0, .float .f32 0, .float .f32 0, .float .f32 0, .float .f32 0, .float .f32 0, .float .f32 0, .float .f32 0, .float .f32 0, .float .f32 0, .float .f32 0, .float .f32 0, .float .f32 0, .float .f32 0, .float .f32 0, .float .f32 0, .float .f32 0, .float .f32 0, .float .f32 0, .float .f32 0, .float .f32 0, .float .f32 0, .float .f32 0, .float .f32 0, .float .f32 0, .float .f32 0, .float .f32 0, .float .f32 0, .float .f32 0, .float .f32 0, .float .f32 0, .float .f32 0, .float .f32 0, .float .f32 0, .float .f32 0, .float .f32 0, .float .f32 0, .float .f32 0, .float .f32 0, .float .f32 0, .float .f32 0, .float .f32 0, .float .f32 0, .float .f32 0, .float .f32 0, .float .f32 0, .float .f32 0, .float .f32 0, .float .f32 0, .float .f32 0, .float .f32 0, .float .f32 0, .float .f32 0, .float .f32 0, .float .f32 0, .float .f32 0, .float .f32 0, .float .f32 0, .float .f32 0, .float .f32 0, .float .f32 0, .float .f32 0, .float .f32 0, .float .f32 0]) := by unfold zrB; kernel_rfl
theorem ar236 : arB Tryz.prog 236 64 117 1 = true := by kernel_rfl
theorem sz242 : szB Tryz.prog 242 true 11 = true := by kernel_rfl
theorem zr242 : zrB Tryz.prog 242 (.agg #[.slice none 0 0, .int .i64 0, .int .i64 0, .int .i64 0, .int .i64 0, .int .i64 0, .int .i64 0, .int .i64 0, .int .i64 0, .int .i64 0, .int .i64 0]) := by unfold zrB; kernel_rfl
theorem fld242_0 : fldB Tryz.prog 242 0 0 = true := by kernel_rfl
theorem pl242 : plB Tryz.prog 242 [(0, 11)] = true := by kernel_rfl
theorem sz262 : szB Tryz.prog 262 true 64 = true := by kernel_rfl
theorem zr262 : zrB Tryz.prog 262 (.agg #[.int .i64 0, .int .i64 0, .int .i64 0, .int .i64 0, .int .i64 0, .int .i64 0, .int .i64 0, .int .i64 0, .int .i64 0, .int .i64 0, .int .i64 0, .int .i64 0, .int .i64 0, .int .i64 0, .int .i64 0, .int .i64 0, .int .i64 0, .int .i64 0, .int .i64 0, .int .i64 0, .int .i64 0, .int .i64 0, .int .i64 0, .int .i64 0, .int .i64 0, .int .i64 0, .int .i64 0, .int .i64 0, .int .i64 0, .int .i64 0, .int .i64 0, .int .i64 0, .int .i64 0, .int .i64 0, .int .i64 0, .int .i64 0, .int .i64 0, .int .i64 0, .int .i64 0, .int .i64 0, .int .i64 0, .int .i64 0, .int .i64 0, .int .i64 0, .int .i64 0, .int .i64 0, .int .i64 0, .int .i64 0, .int .i64 0, .int .i64 0, .int .i64 0, .int .i64 0, .int .i64 0, .int .i64 0, .int .i64 0, .int .i64 0, .int .i64 0, .int .i64 0, .int .i64 0, .int .i64 0, .int .i64 0, .int .i64 0, .int .i64 0, .int .i64 0]) := by unfold zrB; kernel_rfl
theorem ar262 : arB Tryz.prog 262 64 3 1 = true := by kernel_rfl
theorem sz272 : szB Tryz.prog 272 true 61 = true := by kernel_rfl
theorem zr272 : zrB Tryz.prog 272 (.agg #[.complex .f32 0 0, .complex .f32 0 0, .complex .f32 0 0, .complex .f32 0 0, .complex .f32 0 0, .complex .f32 0 0, .complex .f32 0 0, .complex .f32 0 0, .complex .f32 0 0, .complex .f32 0 0, .complex .f32 0 0, .complex .f32 0 0, .complex .f32 0 0, .complex .f32 0 0, .complex .f32 0 0, .complex .f32 0 0, .complex .f32 0 0, .complex .f32 0 0, .complex .f32 0 0, .complex .f32 0 0, .complex .f32 0 0, .complex .f32 0 0, .complex .f32 0 0, .complex .f32 0 0, .complex .f32 0 0, .complex .f32 0 0, .complex .f32 0 0, .complex .f32 0 0, .complex .f32 0 0, .complex .f32 0 0, .complex .f32 0 0, .complex .f32 0 0, .complex .f32 0 0, .complex .f32 0 0, .complex .f32 0 0, .complex .f32 0 0, .complex .f32 0 0, .complex .f32 0 0, .complex .f32 0 0, .complex .f32 0 0, .complex .f32 0 0, .complex .f32 0 0, .complex .f32 0 0, .complex .f32 0 0, .complex .f32 0 0, .complex .f32 0 0, .complex .f32 0 0, .complex .f32 0 0, .complex .f32 0 0, .complex .f32 0 0, .complex .f32 0 0, .complex .f32 0 0, .complex .f32 0 0, .complex .f32 0 0, .complex .f32 0 0, .complex .f32 0 0, .complex .f32 0 0, .complex .f32 0 0, .complex .f32 0 0, .complex .f32 0 0, .complex .f32 0 0]) := by unfold zrB; kernel_rfl
theorem ar272 : arB Tryz.prog 272 61 178 1 = true := by kernel_rfl
theorem by273 : byB Tryz.prog 273 488 = true := by kernel_rfl
theorem zr273 : zrB Tryz.prog 273 (.agg #[.complex .f32 0 0, .complex .f32 0 0, .complex .f32 0 0, .complex .f32 0 0, .complex .f32 0 0, .complex .f32 0 0, .complex .f32 0 0, .complex .f32 0 0, .complex .f32 0 0, .complex .f32 0 0, .complex .f32 0 0, .complex .f32 0 0, .complex .f32 0 0, .complex .f32 0 0, .complex .f32 0 0, .complex .f32 0 0, .complex .f32 0 0, .complex .f32 0 0, .complex .f32 0 0, .complex .f32 0 0, .complex .f32 0 0, .complex .f32 0 0, .complex .f32 0 0, .complex .f32 0 0, .complex .f32 0 0, .complex .f32 0 0, .complex .f32 0 0, .complex .f32 0 0, .complex .f32 0 0, .complex .f32 0 0, .complex .f32 0 0, .complex .f32 0 0, .complex .f32 0 0, .complex .f32 0 0, .complex .f32 0 0, .complex .f32 0 0, .complex .f32 0 0, .complex .f32 0 0, .complex .f32 0 0, .complex .f32 0 0, .complex .f32 0 0, .complex .f32 0 0, .complex .f32 0 0, .complex .f32 0 0, .complex .f32 0 0, .complex .f32 0 0, .complex .f32 0 0, .complex .f32 0 0, .complex .f32 0 0, .complex .f32 0 0, .complex .f32 0 0, .complex .f32 0 0, .complex .f32 0 0, .complex .f32 0 0, .complex .f32 0 0, .complex .f32 0 0, .complex .f32 0 0, .complex .f32 0 0, .complex .f32 0 0, .complex .f32 0 0, .complex .f32 0 0]) := by unfold zrB; kernel_rfl
theorem ar273 : arB Tryz.prog 273 61 178 1 = true := by kernel_rfl
theorem sl282 : slB Tryz.prog 282 40 1 = true := by kernel_rfl
theorem isl282 : isSl Tryz.prog 282 = true := by kernel_rfl
theorem int297 : intB Tryz.prog 297 .u64 = true := by kernel_rfl
theorem zr339 : zrB Tryz.prog 339 (.agg #[.int .i64 0, .int .i64 0, .int .i64 0, .int .i64 0, .int .i64 0, .int .i64 0, .int .i64 0, .int .i64 0, .int .i64 0, .int .i64 0, .int .i64 0, .int .i64 0, .int .i64 0, .int .i64 0]) := by unfold zrB; kernel_rfl
theorem fld339_0 : fldB Tryz.prog 339 0 0 = true := by kernel_rfl
theorem fld339_1 : fldB Tryz.prog 339 1 4 = true := by kernel_rfl
theorem fld339_2 : fldB Tryz.prog 339 2 8 = true := by kernel_rfl
theorem fld339_3 : fldB Tryz.prog 339 3 10 = true := by kernel_rfl
theorem fld339_4 : fldB Tryz.prog 339 4 12 = true := by kernel_rfl
theorem pl339 : plB Tryz.prog 339 [(0, 4), (4, 4), (8, 2), (10, 2), (12, 2)] = true := by kernel_rfl
theorem sz364 : szB Tryz.prog 364 true 6 = true := by kernel_rfl
theorem zr364 : zrB Tryz.prog 364 (.agg #[.int .i64 0, .int .i64 0, .int .i64 0, .int .i64 0, .int .i64 0, .int .i64 0]) := by unfold zrB; kernel_rfl
theorem fld364_0 : fldB Tryz.prog 364 0 0 = true := by kernel_rfl
theorem fld364_1 : fldB Tryz.prog 364 1 1 = true := by kernel_rfl
theorem fld364_2 : fldB Tryz.prog 364 2 2 = true := by kernel_rfl
theorem fld364_3 : fldB Tryz.prog 364 3 3 = true := by kernel_rfl
theorem fld364_4 : fldB Tryz.prog 364 4 4 = true := by kernel_rfl
theorem fld364_5 : fldB Tryz.prog 364 5 5 = true := by kernel_rfl
theorem pl364 : plB Tryz.prog 364 [(0, 1), (1, 1), (2, 1), (3, 1), (4, 1), (5, 1)] = true := by kernel_rfl
theorem sz366 : szB Tryz.prog 366 true 6 = true := by kernel_rfl
theorem zr366 : zrB Tryz.prog 366 (.agg #[.int .i64 0, .int .i64 0, .int .i64 0, .int .i64 0, .int .i64 0, .int .i64 0]) := by unfold zrB; kernel_rfl
theorem fld366_0 : fldB Tryz.prog 366 0 0 = true := by kernel_rfl
theorem pl366 : plB Tryz.prog 366 [(0, 6)] = true := by kernel_rfl
theorem sz375 : szB Tryz.prog 375 true 4 = true := by kernel_rfl
theorem zr375 : zrB Tryz.prog 375 (.agg #[.int .i64 0, .int .i64 0, .int .i64 0, .int .i64 0]) := by unfold zrB; kernel_rfl
theorem ar375 : arB Tryz.prog 375 4 3 1 = true := by kernel_rfl
theorem sz388 : szB Tryz.prog 388 true 2 = true := by kernel_rfl
theorem zr388 : zrB Tryz.prog 388 (.agg #[.int .u64 0, .int .u64 0]) := by unfold zrB; kernel_rfl
theorem fld388_0 : fldB Tryz.prog 388 0 0 = true := by kernel_rfl
theorem fld388_1 : fldB Tryz.prog 388 1 1 = true := by kernel_rfl
theorem pl388 : plB Tryz.prog 388 [(0, 1), (1, 1)] = true := by kernel_rfl
theorem eqk388 : EqK Tryz.prog .u64 388 2 := by
  intro xs ys hx hy w
  match xs, ys, hx, hy with
  | [a0, a1], [b0, b1], _, _ =>
    refine ⟨fun x y => run_eqGuard_agg w .eql 388 x y _ _ (by kernel_rfl), fun x y => run_eqGuard_agg w .neq 388 x y _ _ (by kernel_rfl), ?_⟩
    have hf : (Tryz.prog.fieldsOf 388).toList = [⟨ "high", 165, 0, false, "", "couplant/ray", 0⟩, ⟨ "low", 165, 1, false, "", "couplant/ray", 8⟩] := by kernel_rfl
    rw [show (10000 : Nat) = 9998 + 1 + 1 from rfl, run_equalIn_struct w (9998 + 1) 388 _ _ (by kernel_rfl) (by kernel_rfl), hf]
    have u165 := Tryz.underlying165; 
    simp [Op.eqFields, part, isAgg, run_underlying u165, kW, run_equalIn_int, u165, Result.andThen]
    (repeat' split) <;> simp_all
end Go.Proofs.YtamaocfjknpadaaGreat.Am
