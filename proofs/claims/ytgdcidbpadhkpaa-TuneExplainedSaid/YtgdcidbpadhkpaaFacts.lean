/- Closed facts of the program's types and functions. Conditions: none. -/
import Derived.Test.YtgdcidbpadhkpaaRows
import Derived.Test.YtgdcidbpadhkpaaAmC
import Derived.ChangeKeysEq
set_option linter.unusedVariables false
set_option linter.unusedSimpArgs false
namespace Go.Proofs.Ytgdcidbpadhkpaa.Am
open Go
theorem mixed : Try.prog.follows .mixedOrders = true := by kernel_rfl
theorem en16 : enB Try.prog 16 = true := by kernel_rfl
theorem en18 : enB Try.prog 18 = true := by kernel_rfl
theorem en21 : enB Try.prog 21 = true := by kernel_rfl
theorem en22 : enB Try.prog 22 = true := by kernel_rfl
theorem en28 : enB Try.prog 28 = true := by kernel_rfl
theorem en34 : enB Try.prog 34 = true := by kernel_rfl
theorem en36 : enB Try.prog 36 = true := by kernel_rfl
theorem en48 : enB Try.prog 48 = true := by kernel_rfl
theorem en57 : enB Try.prog 57 = true := by kernel_rfl
theorem en58 : enB Try.prog 58 = true := by kernel_rfl
theorem en59 : enB Try.prog 59 = true := by kernel_rfl
theorem en60 : enB Try.prog 60 = true := by kernel_rfl
theorem en61 : enB Try.prog 61 = true := by kernel_rfl
theorem en62 : enB Try.prog 62 = true := by kernel_rfl
theorem en63 : enB Try.prog 63 = true := by kernel_rfl
theorem en64 : enB Try.prog 64 = true := by kernel_rfl
theorem en65 : enB Try.prog 65 = true := by kernel_rfl
theorem en66 : enB Try.prog 66 = true := by kernel_rfl
theorem en67 : enB Try.prog 67 = true := by kernel_rfl
theorem en68 : enB Try.prog 68 = true := by kernel_rfl
theorem en69 : enB Try.prog 69 = true := by kernel_rfl
theorem en70 : enB Try.prog 70 = true := by kernel_rfl
theorem en71 : enB Try.prog 71 = true := by kernel_rfl
theorem en72 : enB Try.prog 72 = true := by kernel_rfl
theorem en73 : enB Try.prog 73 = true := by kernel_rfl
theorem en78 : enB Try.prog 78 = true := by kernel_rfl
theorem en79 : enB Try.prog 79 = true := by kernel_rfl
theorem en80 : enB Try.prog 80 = true := by kernel_rfl
theorem en81 : enB Try.prog 81 = true := by kernel_rfl
theorem en84 : enB Try.prog 84 = true := by kernel_rfl
theorem en85 : enB Try.prog 85 = true := by kernel_rfl
theorem en86 : enB Try.prog 86 = true := by kernel_rfl
theorem en87 : enB Try.prog 87 = true := by kernel_rfl
theorem en88 : enB Try.prog 88 = true := by kernel_rfl
theorem en89 : enB Try.prog 89 = true := by kernel_rfl
theorem en92 : enB Try.prog 92 = true := by kernel_rfl
theorem en93 : enB Try.prog 93 = true := by kernel_rfl
theorem en94 : enB Try.prog 94 = true := by kernel_rfl
theorem en95 : enB Try.prog 95 = true := by kernel_rfl
theorem en99 : enB Try.prog 99 = true := by kernel_rfl
theorem en100 : enB Try.prog 100 = true := by kernel_rfl
theorem en101 : enB Try.prog 101 = true := by kernel_rfl
theorem en106 : enB Try.prog 106 = true := by kernel_rfl
theorem en107 : enB Try.prog 107 = true := by kernel_rfl
theorem en108 : enB Try.prog 108 = true := by kernel_rfl
theorem en109 : enB Try.prog 109 = true := by kernel_rfl
theorem en110 : enB Try.prog 110 = true := by kernel_rfl
theorem en111 : enB Try.prog 111 = true := by kernel_rfl
theorem en112 : enB Try.prog 112 = true := by kernel_rfl
theorem en113 : enB Try.prog 113 = true := by kernel_rfl
theorem en114 : enB Try.prog 114 = true := by kernel_rfl
theorem en115 : enB Try.prog 115 = true := by kernel_rfl
theorem en116 : enB Try.prog 116 = true := by kernel_rfl
theorem en117 : enB Try.prog 117 = true := by kernel_rfl
theorem en118 : enB Try.prog 118 = true := by kernel_rfl
theorem en119 : enB Try.prog 119 = true := by kernel_rfl
theorem en120 : enB Try.prog 120 = true := by kernel_rfl
theorem en121 : enB Try.prog 121 = true := by kernel_rfl
theorem en122 : enB Try.prog 122 = true := by kernel_rfl
theorem en123 : enB Try.prog 123 = true := by kernel_rfl
theorem en127 : enB Try.prog 127 = true := by kernel_rfl
theorem en128 : enB Try.prog 128 = true := by kernel_rfl
theorem en129 : enB Try.prog 129 = true := by kernel_rfl
theorem en130 : enB Try.prog 130 = true := by kernel_rfl
theorem en131 : enB Try.prog 131 = true := by kernel_rfl
theorem sz3 : szB Try.prog 3 false 1 = true := by kernel_rfl
theorem by3 : byB Try.prog 3 8 = true := by kernel_rfl
theorem zr3 : zrB Try.prog 3 (.int .i64 0) := by unfold zrB; kernel_rfl
theorem sz4 : szB Try.prog 4 false 1 = true := by kernel_rfl
theorem sz5 : szB Try.prog 5 false 1 = true := by kernel_rfl
theorem int5 : intB Try.prog 5 .u8 = true := by kernel_rfl
theorem sz9 : szB Try.prog 9 false 1 = true := by kernel_rfl
theorem str9 : isStr Try.prog 9 = true := by kernel_rfl
theorem sl22 : slB Try.prog 22 59 2 = true := by kernel_rfl
theorem isl22 : isSl Try.prog 22 = true := by kernel_rfl
theorem sz25 : szB Try.prog 25 false 1 = true := by kernel_rfl
theorem zr25 : zrB Try.prog 25 (.slice none 0 0) := by unfold zrB; kernel_rfl
theorem sl25 : slB Try.prog 25 3 1 = true := by kernel_rfl
theorem isl25 : isSl Try.prog 25 = true := by kernel_rfl
theorem sz26 : szB Try.prog 26 false 1 = true := by kernel_rfl
theorem zr26 : zrB Try.prog 26 (.int .i64 0) := by unfold zrB; kernel_rfl
theorem sz40 : szB Try.prog 40 false 1 = true := by kernel_rfl
theorem sl40 : slB Try.prog 40 87 4 = true := by kernel_rfl
theorem isl40 : isSl Try.prog 40 = true := by kernel_rfl
theorem sl41 : slB Try.prog 41 90 3 = true := by kernel_rfl
theorem isl41 : isSl Try.prog 41 = true := by kernel_rfl
theorem sz52 : szB Try.prog 52 true 2 = true := by kernel_rfl
theorem zr52 : zrB Try.prog 52 (.agg #[.int .i64 0, .int .i64 0]) := by unfold zrB; kernel_rfl
theorem fld52_0 : fldB Try.prog 52 0 0 = true := by kernel_rfl
theorem fld52_1 : fldB Try.prog 52 1 1 = true := by kernel_rfl
theorem pl52 : plB Try.prog 52 [(0, 1), (1, 1)] = true := by kernel_rfl
theorem eqi52 : EqI Try.prog 52 2 := by
  intro xs ys hx hy w
  match xs, ys, hx, hy with
  | [a0, a1], [b0, b1], _, _ =>
    refine ⟨fun x y => run_eqGuard_agg w .eql 52 x y _ _ (by kernel_rfl), fun x y => run_eqGuard_agg w .neq 52 x y _ _ (by kernel_rfl), ?_⟩
    have hf : (Try.prog.fieldsOf 52).toList = [⟨ "Lo", 3, 0, false, "", "", 0⟩, ⟨ "Hi", 3, 1, false, "", "", 8⟩] := by kernel_rfl
    rw [show (10000 : Nat) = 9998 + 1 + 1 from rfl, run_equalIn_struct w (9998 + 1) 52 _ _ (by kernel_rfl) (by kernel_rfl), hf]
    have u3 := Try.underlying3; 
    simp [Op.eqFields, part, isAgg, run_underlying u3, iW, run_equalIn_int, u3, Result.andThen]
    (repeat' split) <;> simp_all
theorem sz59 : szB Try.prog 59 true 2 = true := by kernel_rfl
theorem zr59 : zrB Try.prog 59 (.agg #[.int .i64 0, .int .i64 0]) := by unfold zrB; kernel_rfl
theorem fld59_0 : fldB Try.prog 59 0 0 = true := by kernel_rfl
theorem fld59_1 : fldB Try.prog 59 1 1 = true := by kernel_rfl
theorem pl59 : plB Try.prog 59 [(0, 1), (1, 1)] = true := by kernel_rfl
theorem eqi59 : EqI Try.prog 59 2 := by
  intro xs ys hx hy w
  match xs, ys, hx, hy with
  | [a0, a1], [b0, b1], _, _ =>
    refine ⟨fun x y => run_eqGuard_agg w .eql 59 x y _ _ (by kernel_rfl), fun x y => run_eqGuard_agg w .neq 59 x y _ _ (by kernel_rfl), ?_⟩
    have hf : (Try.prog.fieldsOf 59).toList = [⟨ "Depth", 3, 0, false, "", "", 0⟩, ⟨ "Echo", 3, 1, false, "", "", 8⟩] := by kernel_rfl
    rw [show (10000 : Nat) = 9998 + 1 + 1 from rfl, run_equalIn_struct w (9998 + 1) 59 _ _ (by kernel_rfl) (by kernel_rfl), hf]
    have u3 := Try.underlying3; 
    simp [Op.eqFields, part, isAgg, run_underlying u3, iW, run_equalIn_int, u3, Result.andThen]
    (repeat' split) <;> simp_all
theorem sz87 : szB Try.prog 87 true 4 = true := by kernel_rfl
theorem zr87 : zrB Try.prog 87 (.agg #[.string ⟨#[]⟩, .int .i64 0, .int .i64 0, .slice none 0 0]) := by unfold zrB; kernel_rfl
theorem fld87_0 : fldB Try.prog 87 0 0 = true := by kernel_rfl
theorem fld87_1 : fldB Try.prog 87 1 1 = true := by kernel_rfl
theorem fld87_2 : fldB Try.prog 87 2 2 = true := by kernel_rfl
theorem fld87_3 : fldB Try.prog 87 3 3 = true := by kernel_rfl
theorem pl87 : plB Try.prog 87 [(0, 1), (1, 1), (2, 1), (3, 1)] = true := by kernel_rfl
theorem ar88 : arB Try.prog 88 2 3 1 = true := by kernel_rfl
theorem sz90 : szB Try.prog 90 true 3 = true := by kernel_rfl
theorem zr90 : zrB Try.prog 90 (.agg #[.int .i64 0, .int .i64 0, .int .i64 0]) := by unfold zrB; kernel_rfl
theorem fld90_0 : fldB Try.prog 90 0 0 = true := by kernel_rfl
theorem fld90_1 : fldB Try.prog 90 1 1 = true := by kernel_rfl
theorem fld90_2 : fldB Try.prog 90 2 2 = true := by kernel_rfl
theorem pl90 : plB Try.prog 90 [(0, 1), (1, 1), (2, 1)] = true := by kernel_rfl
theorem sl93 : slB Try.prog 93 105 3 = true := by kernel_rfl
theorem isl93 : isSl Try.prog 93 = true := by kernel_rfl
theorem sl103 : slB Try.prog 103 88 2 = true := by kernel_rfl
theorem isl103 : isSl Try.prog 103 = true := by kernel_rfl
theorem sz105 : szB Try.prog 105 true 3 = true := by kernel_rfl
theorem by105 : byB Try.prog 105 24 = true := by kernel_rfl
theorem zr105 : zrB Try.prog 105 (.agg #[.int .i64 0, .int .i64 0, .int .i64 0]) := by unfold zrB; kernel_rfl
theorem fld105_0 : fldB Try.prog 105 0 0 = true := by kernel_rfl
theorem fld105_1 : fldB Try.prog 105 1 1 = true := by kernel_rfl
theorem pl105 : plB Try.prog 105 [(0, 1), (1, 2)] = true := by kernel_rfl
theorem sz107 : szB Try.prog 107 true 3 = true := by kernel_rfl
theorem zr107 : zrB Try.prog 107 (.agg #[.int .i64 0, .int .i64 0, .int .i64 0]) := by unfold zrB; kernel_rfl
theorem ar107 : arB Try.prog 107 3 3 1 = true := by kernel_rfl
theorem eqi107 : EqI Try.prog 107 3 := by
  intro xs ys hx hy w
  match xs, ys, hx, hy with
  | [a0, a1, a2], [b0, b1, b2], _, _ =>
    refine ⟨fun x y => run_eqGuard_agg w .eql 107 x y _ _ (by kernel_rfl), fun x y => run_eqGuard_agg w .neq 107 x y _ _ (by kernel_rfl), ?_⟩
    have u := Try.underlying3
    obtain ⟨i, hi, _⟩ := arB_info ar107
    rw [show (10000 : Nat) = 9998 + 1 + 1 from rfl, run_equalIn_array w (9998 + 1) _ _ (arB_under ar107) hi, show Try.prog.cellsOf 3 = 1 from by kernel_rfl]
    simp [Op.eqItems, List.range, List.range.loop, part, isAgg, run_underlying u, iW, run_equalIn_int, u, Result.andThen]
    (repeat' split) <;> simp_all
theorem sz116 : szB Try.prog 116 true 2 = true := by kernel_rfl
theorem zr116 : zrB Try.prog 116 (.agg #[.int .i64 0, .int .i64 0]) := by unfold zrB; kernel_rfl
theorem fld116_0 : fldB Try.prog 116 0 0 = true := by kernel_rfl
theorem fld116_1 : fldB Try.prog 116 1 1 = true := by kernel_rfl
theorem pl116 : plB Try.prog 116 [(0, 1), (1, 1)] = true := by kernel_rfl
theorem sz130 : szB Try.prog 130 true 2 = true := by kernel_rfl
theorem zr130 : zrB Try.prog 130 (.agg #[.int .i64 0, .int .i64 0]) := by unfold zrB; kernel_rfl
theorem fld130_0 : fldB Try.prog 130 0 0 = true := by kernel_rfl
theorem fld130_1 : fldB Try.prog 130 1 1 = true := by kernel_rfl
theorem pl130 : plB Try.prog 130 [(0, 1), (1, 1)] = true := by kernel_rfl
theorem sl144 : slB Try.prog 144 105 3 = true := by kernel_rfl
theorem isl144 : isSl Try.prog 144 = true := by kernel_rfl
theorem sl157 : slB Try.prog 157 5 1 = true := by kernel_rfl
theorem isl157 : isSl Try.prog 157 = true := by kernel_rfl
theorem sz160 : szB Try.prog 160 false 1 = true := by kernel_rfl
theorem sl160 : slB Try.prog 160 163 4 = true := by kernel_rfl
theorem isl160 : isSl Try.prog 160 = true := by kernel_rfl
theorem sz163 : szB Try.prog 163 true 4 = true := by kernel_rfl
theorem by163 : byB Try.prog 163 24 = true := by kernel_rfl
theorem zr163 : zrB Try.prog 163 (.agg #[.bool false, .bool false, .int .i64 0, .int .i64 0]) := by unfold zrB; kernel_rfl
theorem fld163_0 : fldB Try.prog 163 0 0 = true := by kernel_rfl
theorem fld163_1 : fldB Try.prog 163 1 1 = true := by kernel_rfl
theorem fld163_2 : fldB Try.prog 163 2 2 = true := by kernel_rfl
theorem fld163_3 : fldB Try.prog 163 3 3 = true := by kernel_rfl
theorem pl163 : plB Try.prog 163 [(0, 1), (1, 1), (2, 1), (3, 1)] = true := by kernel_rfl
theorem zr165 : zrB Try.prog 165 (.agg #[.slice none 0 0, .slice none 0 0]) := by unfold zrB; kernel_rfl
theorem fld165_0 : fldB Try.prog 165 0 0 = true := by kernel_rfl
theorem fld165_1 : fldB Try.prog 165 1 1 = true := by kernel_rfl
theorem pl165 : plB Try.prog 165 [(0, 1), (1, 1)] = true := by kernel_rfl
theorem sl167 : slB Try.prog 167 26 1 = true := by kernel_rfl
theorem isl167 : isSl Try.prog 167 = true := by kernel_rfl
end Go.Proofs.Ytgdcidbpadhkpaa.Am
