/- Closed facts of the program's types and functions. Conditions: none. -/
import Derived.Test.YthpggoophcdgnaaDoorProg
import Derived.Test.YthpggoophcdgnaaDoorAmD
import Derived.ChangeKeysEq
set_option linter.unusedVariables false
set_option linter.unusedSimpArgs false
namespace Go.Proofs.YthpggoophcdgnaaDoor.Am
open Go
theorem mixed : Tryd.prog.follows .mixedOrders = true := by kernel_rfl
theorem en4 : enB Tryd.prog 4 = true := by kernel_rfl
theorem en5 : enB Tryd.prog 5 = true := by kernel_rfl
theorem en6 : enB Tryd.prog 6 = true := by kernel_rfl
theorem en7 : enB Tryd.prog 7 = true := by kernel_rfl
theorem en8 : enB Tryd.prog 8 = true := by kernel_rfl
theorem en9 : enB Tryd.prog 9 = true := by kernel_rfl
theorem en10 : enB Tryd.prog 10 = true := by kernel_rfl
theorem en11 : enB Tryd.prog 11 = true := by kernel_rfl
theorem en12 : enB Tryd.prog 12 = true := by kernel_rfl
theorem en13 : enB Tryd.prog 13 = true := by kernel_rfl
theorem en14 : enB Tryd.prog 14 = true := by kernel_rfl
theorem en15 : enB Tryd.prog 15 = true := by kernel_rfl
theorem en16 : enB Tryd.prog 16 = true := by kernel_rfl
theorem en17 : enB Tryd.prog 17 = true := by kernel_rfl
theorem en18 : enB Tryd.prog 18 = true := by kernel_rfl
theorem en19 : enB Tryd.prog 19 = true := by kernel_rfl
theorem en20 : enB Tryd.prog 20 = true := by kernel_rfl
theorem en21 : enB Tryd.prog 21 = true := by kernel_rfl
theorem en22 : enB Tryd.prog 22 = true := by kernel_rfl
theorem en23 : enB Tryd.prog 23 = true := by kernel_rfl
theorem en24 : enB Tryd.prog 24 = true := by kernel_rfl
theorem en25 : enB Tryd.prog 25 = true := by kernel_rfl
theorem en26 : enB Tryd.prog 26 = true := by kernel_rfl
theorem en27 : enB Tryd.prog 27 = true := by kernel_rfl
theorem en28 : enB Tryd.prog 28 = true := by kernel_rfl
theorem en29 : enB Tryd.prog 29 = true := by kernel_rfl
theorem en30 : enB Tryd.prog 30 = true := by kernel_rfl
theorem en31 : enB Tryd.prog 31 = true := by kernel_rfl
theorem en32 : enB Tryd.prog 32 = true := by kernel_rfl
theorem en33 : enB Tryd.prog 33 = true := by kernel_rfl
theorem en34 : enB Tryd.prog 34 = true := by kernel_rfl
theorem en35 : enB Tryd.prog 35 = true := by kernel_rfl
theorem en36 : enB Tryd.prog 36 = true := by kernel_rfl
theorem en37 : enB Tryd.prog 37 = true := by kernel_rfl
theorem en38 : enB Tryd.prog 38 = true := by kernel_rfl
theorem en39 : enB Tryd.prog 39 = true := by kernel_rfl
theorem en40 : enB Tryd.prog 40 = true := by kernel_rfl
theorem en41 : enB Tryd.prog 41 = true := by kernel_rfl
theorem en42 : enB Tryd.prog 42 = true := by kernel_rfl
theorem en43 : enB Tryd.prog 43 = true := by kernel_rfl
theorem en44 : enB Tryd.prog 44 = true := by kernel_rfl
theorem en45 : enB Tryd.prog 45 = true := by kernel_rfl
theorem en46 : enB Tryd.prog 46 = true := by kernel_rfl
theorem en47 : enB Tryd.prog 47 = true := by kernel_rfl
theorem en48 : enB Tryd.prog 48 = true := by kernel_rfl
theorem en49 : enB Tryd.prog 49 = true := by kernel_rfl
theorem en50 : enB Tryd.prog 50 = true := by kernel_rfl
theorem en51 : enB Tryd.prog 51 = true := by kernel_rfl
theorem en52 : enB Tryd.prog 52 = true := by kernel_rfl
theorem en53 : enB Tryd.prog 53 = true := by kernel_rfl
theorem en54 : enB Tryd.prog 54 = true := by kernel_rfl
theorem en55 : enB Tryd.prog 55 = true := by kernel_rfl
theorem en56 : enB Tryd.prog 56 = true := by kernel_rfl
theorem en57 : enB Tryd.prog 57 = true := by kernel_rfl
theorem en58 : enB Tryd.prog 58 = true := by kernel_rfl
theorem en59 : enB Tryd.prog 59 = true := by kernel_rfl
theorem sz3 : szB Tryd.prog 3 false 1 = true := by kernel_rfl
theorem by3 : byB Tryd.prog 3 8 = true := by kernel_rfl
theorem zr3 : zrB Tryd.prog 3 (.int .i64 0) := by unfold zrB; kernel_rfl
theorem sz4 : szB Tryd.prog 4 false 1 = true := by kernel_rfl
theorem sz5 : szB Tryd.prog 5 false 1 = true := by kernel_rfl
theorem int5 : intB Tryd.prog 5 .u8 = true := by kernel_rfl
theorem sz9 : szB Tryd.prog 9 false 1 = true := by kernel_rfl
theorem str9 : isStr Tryd.prog 9 = true := by kernel_rfl
theorem sz22 : szB Tryd.prog 22 false 1 = true := by kernel_rfl
theorem zr22 : zrB Tryd.prog 22 (.slice none 0 0) := by unfold zrB; kernel_rfl
theorem sl22 : slB Tryd.prog 22 43 13 = true := by kernel_rfl
theorem isl22 : isSl Tryd.prog 22 = true := by kernel_rfl
theorem sz24 : szB Tryd.prog 24 true 3 = true := by kernel_rfl
theorem zr24 : zrB Tryd.prog 24 (.agg #[.string ⟨#[]⟩, .slice none 0 0, .slice none 0 0]) := by unfold zrB; kernel_rfl
theorem fld24_0 : fldB Tryd.prog 24 0 0 = true := by kernel_rfl
theorem fld24_1 : fldB Tryd.prog 24 1 1 = true := by kernel_rfl
theorem fld24_2 : fldB Tryd.prog 24 2 2 = true := by kernel_rfl
theorem pl24 : plB Tryd.prog 24 [(0, 1), (1, 1), (2, 1)] = true := by kernel_rfl
theorem sl25 : slB Tryd.prog 25 41 12 = true := by kernel_rfl
theorem isl25 : isSl Tryd.prog 25 = true := by kernel_rfl
theorem sz26 : szB Tryd.prog 26 true 6 = true := by kernel_rfl
theorem zr26 : zrB Tryd.prog 26 (.agg #[.int .i64 0, .int .i64 0, .int .i64 0, .int .i64 0, .int .i64 0, .int .i64 0]) := by unfold zrB; kernel_rfl
theorem ar26 : arB Tryd.prog 26 6 3 1 = true := by kernel_rfl
theorem sz27 : szB Tryd.prog 27 true 6 = true := by kernel_rfl
theorem zr27 : zrB Tryd.prog 27 (.agg #[.int .i64 0, .int .i64 0, .int .i64 0, .int .i64 0, .int .i64 0, .int .i64 0]) := by unfold zrB; kernel_rfl
theorem ar27 : arB Tryd.prog 27 6 3 1 = true := by kernel_rfl
theorem eqi27 : EqI Tryd.prog 27 6 := by
  intro xs ys hx hy w
  match xs, ys, hx, hy with
  | [a0, a1, a2, a3, a4, a5], [b0, b1, b2, b3, b4, b5], _, _ =>
    refine ⟨fun x y => run_eqGuard_agg w .eql 27 x y _ _ (by kernel_rfl), fun x y => run_eqGuard_agg w .neq 27 x y _ _ (by kernel_rfl), ?_⟩
    have u := Tryd.underlying3
    obtain ⟨i, hi, _⟩ := arB_info ar27
    rw [show (10000 : Nat) = 9998 + 1 + 1 from rfl, run_equalIn_array w (9998 + 1) _ _ (arB_under ar27) hi, show Tryd.prog.cellsOf 3 = 1 from by kernel_rfl]
    simp [Op.eqItems, List.range, List.range.loop, part, isAgg, run_underlying u, iW, run_equalIn_int, u, Result.andThen]
    (repeat' split) <;> simp_all
theorem sz28 : szB Tryd.prog 28 true 3 = true := by kernel_rfl
theorem zr28 : zrB Tryd.prog 28 (.agg #[.int .i64 0, .int .i64 0, .int .i64 0]) := by unfold zrB; kernel_rfl
theorem ar28 : arB Tryd.prog 28 3 3 1 = true := by kernel_rfl
theorem sz30 : szB Tryd.prog 30 true 9 = true := by kernel_rfl
theorem zr30 : zrB Tryd.prog 30 (.agg #[.int .i64 0, .int .i64 0, .int .i64 0, .int .i64 0, .int .i64 0, .int .i64 0, .int .i64 0, .int .i64 0, .int .i64 0]) := by unfold zrB; kernel_rfl
theorem fld30_0 : fldB Tryd.prog 30 0 0 = true := by kernel_rfl
theorem fld30_1 : fldB Tryd.prog 30 1 6 = true := by kernel_rfl
theorem pl30 : plB Tryd.prog 30 [(0, 6), (6, 3)] = true := by kernel_rfl
theorem sz39 : szB Tryd.prog 39 true 2 = true := by kernel_rfl
theorem zr39 : zrB Tryd.prog 39 (.agg #[.int .i64 0, .int .i64 0]) := by unfold zrB; kernel_rfl
theorem fld39_0 : fldB Tryd.prog 39 0 0 = true := by kernel_rfl
theorem fld39_1 : fldB Tryd.prog 39 1 1 = true := by kernel_rfl
theorem pl39 : plB Tryd.prog 39 [(0, 1), (1, 1)] = true := by kernel_rfl
theorem sz41 : szB Tryd.prog 41 true 12 = true := by kernel_rfl
theorem zr41 : zrB Tryd.prog 41 (.agg #[.int .i64 0, .int .i64 0, .int .i64 0, .int .i64 0, .int .i64 0, .int .i64 0, .int .i64 0, .int .i64 0, .int .i64 0, .int .i64 0, .int .i64 0, .int .i64 0]) := by unfold zrB; kernel_rfl
theorem ar41 : arB Tryd.prog 41 6 39 2 = true := by kernel_rfl
theorem sz43 : szB Tryd.prog 43 true 13 = true := by kernel_rfl
theorem by43 : byB Tryd.prog 43 104 = true := by kernel_rfl
theorem zr43 : zrB Tryd.prog 43 (.agg #[.int .i64 0, .int .i64 0, .int .i64 0, .int .i64 0, .int .i64 0, .int .i64 0, .int .i64 0, .int .i64 0, .int .i64 0, .int .i64 0, .int .i64 0, .int .i64 0, .int .i64 0]) := by unfold zrB; kernel_rfl
theorem fld43_0 : fldB Tryd.prog 43 0 0 = true := by kernel_rfl
theorem fld43_1 : fldB Tryd.prog 43 1 12 = true := by kernel_rfl
theorem pl43 : plB Tryd.prog 43 [(0, 12), (12, 1)] = true := by kernel_rfl
theorem sz51 : szB Tryd.prog 51 true 12 = true := by kernel_rfl
theorem zr51 : zrB Tryd.prog 51 (.agg #[.int .i64 0, .int .i64 0, .int .i64 0, .int .i64 0, .int .i64 0, .int .i64 0, .int .i64 0, .int .i64 0, .int .i64 0, .int .i64 0, .int .i64 0, .int .i64 0]) := by unfold zrB; kernel_rfl
theorem ar51 : arB Tryd.prog 51 2 27 6 = true := by kernel_rfl
theorem sz68 : szB Tryd.prog 68 false 1 = true := by kernel_rfl
theorem zr68 : zrB Tryd.prog 68 (.slice none 0 0) := by unfold zrB; kernel_rfl
theorem sl68 : slB Tryd.prog 68 43 13 = true := by kernel_rfl
theorem isl68 : isSl Tryd.prog 68 = true := by kernel_rfl
theorem sz73 : szB Tryd.prog 73 false 1 = true := by kernel_rfl
theorem sz83 : szB Tryd.prog 83 false 1 = true := by kernel_rfl
theorem zr85 : zrB Tryd.prog 85 (.agg #[.slice none 0 0, .int .i64 0, .int .i64 0, .int .i64 0, .int .i64 0, .int .i64 0, .int .i64 0, .int .i64 0, .int .i64 0, .int .i64 0, .int .i64 0, .int .i64 0, .int .i64 0, .int .i64 0, .int .i64 0, .int .i64 0, .int .i64 0, .bool false]) := by unfold zrB; kernel_rfl
theorem fld85_0 : fldB Tryd.prog 85 0 0 = true := by kernel_rfl
theorem fld85_1 : fldB Tryd.prog 85 1 1 = true := by kernel_rfl
theorem fld85_2 : fldB Tryd.prog 85 2 10 = true := by kernel_rfl
theorem fld85_3 : fldB Tryd.prog 85 3 16 = true := by kernel_rfl
theorem fld85_4 : fldB Tryd.prog 85 4 17 = true := by kernel_rfl
theorem pl85 : plB Tryd.prog 85 [(0, 1), (1, 9), (10, 6), (16, 1), (17, 1)] = true := by kernel_rfl
theorem sl89 : slB Tryd.prog 89 22 1 = true := by kernel_rfl
theorem isl89 : isSl Tryd.prog 89 = true := by kernel_rfl
theorem sl92 : slB Tryd.prog 92 3 1 = true := by kernel_rfl
theorem isl92 : isSl Tryd.prog 92 = true := by kernel_rfl
theorem sz95 : szB Tryd.prog 95 false 1 = true := by kernel_rfl
theorem zr99 : zrB Tryd.prog 99 (.agg #[.slice none 0 0, .int .i64 0, .int .i64 0, .int .i64 0, .int .i64 0, .int .i64 0, .int .i64 0, .int .i64 0, .int .i64 0, .int .i64 0, .int .i64 0, .int .i64 0, .int .i64 0, .nilFunc, .map none]) := by unfold zrB; kernel_rfl
theorem fld99_0 : fldB Tryd.prog 99 0 0 = true := by kernel_rfl
theorem fld99_1 : fldB Tryd.prog 99 1 1 = true := by kernel_rfl
theorem fld99_2 : fldB Tryd.prog 99 2 13 = true := by kernel_rfl
theorem fld99_3 : fldB Tryd.prog 99 3 14 = true := by kernel_rfl
theorem pl99 : plB Tryd.prog 99 [(0, 1), (1, 12), (13, 1), (14, 1)] = true := by kernel_rfl
theorem sz100 : szB Tryd.prog 100 false 1 = true := by kernel_rfl
theorem zr100 : zrB Tryd.prog 100 (.pointer none) := by unfold zrB; kernel_rfl
theorem sz104 : szB Tryd.prog 104 true 3 = true := by kernel_rfl
theorem zr104 : zrB Tryd.prog 104 (.agg #[.int .i64 0, .int .u64 0, .int .u64 0]) := by unfold zrB; kernel_rfl
theorem fld104_0 : fldB Tryd.prog 104 0 0 = true := by kernel_rfl
theorem fld104_1 : fldB Tryd.prog 104 1 1 = true := by kernel_rfl
theorem fld104_2 : fldB Tryd.prog 104 2 2 = true := by kernel_rfl
theorem pl104 : plB Tryd.prog 104 [(0, 1), (1, 1), (2, 1)] = true := by kernel_rfl
theorem sz109 : szB Tryd.prog 109 true 3 = true := by kernel_rfl
theorem zr109 : zrB Tryd.prog 109 (.agg #[.int .i64 0, .int .i64 0, .int .u64 0]) := by unfold zrB; kernel_rfl
theorem fld109_0 : fldB Tryd.prog 109 0 0 = true := by kernel_rfl
theorem fld109_1 : fldB Tryd.prog 109 1 2 = true := by kernel_rfl
theorem pl109 : plB Tryd.prog 109 [(0, 2), (2, 1)] = true := by kernel_rfl
theorem sl110 : slB Tryd.prog 110 5 1 = true := by kernel_rfl
theorem isl110 : isSl Tryd.prog 110 = true := by kernel_rfl
end Go.Proofs.YthpggoophcdgnaaDoor.Am
