/- Closed facts of the program's types and functions. Conditions: none. -/
import Derived.Test.YtblbnagdhcpnoaaRows
import Derived.Test.YtblbnagdhcpnoaaAmD
import Derived.ChangeKeysEq
set_option linter.unusedVariables false
set_option linter.unusedSimpArgs false
namespace Go.Proofs.Ytblbnagdhcpnoaa.Am
open Go
theorem mixed : Try.prog.follows .mixedOrders = true := by kernel_rfl
theorem en12 : enB Try.prog 12 = true := by kernel_rfl
theorem en13 : enB Try.prog 13 = true := by kernel_rfl
theorem en14 : enB Try.prog 14 = true := by kernel_rfl
theorem en15 : enB Try.prog 15 = true := by kernel_rfl
theorem en16 : enB Try.prog 16 = true := by kernel_rfl
theorem en17 : enB Try.prog 17 = true := by kernel_rfl
theorem en18 : enB Try.prog 18 = true := by kernel_rfl
theorem en19 : enB Try.prog 19 = true := by kernel_rfl
theorem en20 : enB Try.prog 20 = true := by kernel_rfl
theorem en22 : enB Try.prog 22 = true := by kernel_rfl
theorem en23 : enB Try.prog 23 = true := by kernel_rfl
theorem en24 : enB Try.prog 24 = true := by kernel_rfl
theorem en25 : enB Try.prog 25 = true := by kernel_rfl
theorem en27 : enB Try.prog 27 = true := by kernel_rfl
theorem en29 : enB Try.prog 29 = true := by kernel_rfl
theorem en33 : enB Try.prog 33 = true := by kernel_rfl
theorem en34 : enB Try.prog 34 = true := by kernel_rfl
theorem en35 : enB Try.prog 35 = true := by kernel_rfl
theorem en36 : enB Try.prog 36 = true := by kernel_rfl
theorem en37 : enB Try.prog 37 = true := by kernel_rfl
theorem en47 : enB Try.prog 47 = true := by kernel_rfl
theorem en48 : enB Try.prog 48 = true := by kernel_rfl
theorem en49 : enB Try.prog 49 = true := by kernel_rfl
theorem en50 : enB Try.prog 50 = true := by kernel_rfl
theorem en51 : enB Try.prog 51 = true := by kernel_rfl
theorem en52 : enB Try.prog 52 = true := by kernel_rfl
theorem en53 : enB Try.prog 53 = true := by kernel_rfl
theorem en54 : enB Try.prog 54 = true := by kernel_rfl
theorem en55 : enB Try.prog 55 = true := by kernel_rfl
theorem en56 : enB Try.prog 56 = true := by kernel_rfl
theorem en57 : enB Try.prog 57 = true := by kernel_rfl
theorem en58 : enB Try.prog 58 = true := by kernel_rfl
theorem en59 : enB Try.prog 59 = true := by kernel_rfl
theorem en60 : enB Try.prog 60 = true := by kernel_rfl
theorem en61 : enB Try.prog 61 = true := by kernel_rfl
theorem en62 : enB Try.prog 62 = true := by kernel_rfl
theorem en64 : enB Try.prog 64 = true := by kernel_rfl
theorem en65 : enB Try.prog 65 = true := by kernel_rfl
theorem en66 : enB Try.prog 66 = true := by kernel_rfl
theorem en67 : enB Try.prog 67 = true := by kernel_rfl
theorem en68 : enB Try.prog 68 = true := by kernel_rfl
theorem en69 : enB Try.prog 69 = true := by kernel_rfl
theorem en72 : enB Try.prog 72 = true := by kernel_rfl
theorem en77 : enB Try.prog 77 = true := by kernel_rfl
theorem en78 : enB Try.prog 78 = true := by kernel_rfl
theorem en79 : enB Try.prog 79 = true := by kernel_rfl
theorem en80 : enB Try.prog 80 = true := by kernel_rfl
theorem en81 : enB Try.prog 81 = true := by kernel_rfl
theorem en82 : enB Try.prog 82 = true := by kernel_rfl
theorem en83 : enB Try.prog 83 = true := by kernel_rfl
theorem en87 : enB Try.prog 87 = true := by kernel_rfl
theorem en93 : enB Try.prog 93 = true := by kernel_rfl
theorem en94 : enB Try.prog 94 = true := by kernel_rfl
theorem en95 : enB Try.prog 95 = true := by kernel_rfl
theorem en96 : enB Try.prog 96 = true := by kernel_rfl
theorem en97 : enB Try.prog 97 = true := by kernel_rfl
theorem en98 : enB Try.prog 98 = true := by kernel_rfl
theorem en99 : enB Try.prog 99 = true := by kernel_rfl
theorem en100 : enB Try.prog 100 = true := by kernel_rfl
theorem en101 : enB Try.prog 101 = true := by kernel_rfl
theorem en102 : enB Try.prog 102 = true := by kernel_rfl
theorem en103 : enB Try.prog 103 = true := by kernel_rfl
theorem en104 : enB Try.prog 104 = true := by kernel_rfl
theorem en105 : enB Try.prog 105 = true := by kernel_rfl
theorem en107 : enB Try.prog 107 = true := by kernel_rfl
theorem en108 : enB Try.prog 108 = true := by kernel_rfl
theorem en111 : enB Try.prog 111 = true := by kernel_rfl
theorem en112 : enB Try.prog 112 = true := by kernel_rfl
theorem en113 : enB Try.prog 113 = true := by kernel_rfl
theorem en116 : enB Try.prog 116 = true := by kernel_rfl
theorem en120 : enB Try.prog 120 = true := by kernel_rfl
theorem en121 : enB Try.prog 121 = true := by kernel_rfl
theorem en124 : enB Try.prog 124 = true := by kernel_rfl
theorem en125 : enB Try.prog 125 = true := by kernel_rfl
theorem en127 : enB Try.prog 127 = true := by kernel_rfl
theorem en128 : enB Try.prog 128 = true := by kernel_rfl
theorem en129 : enB Try.prog 129 = true := by kernel_rfl
theorem en130 : enB Try.prog 130 = true := by kernel_rfl
theorem en131 : enB Try.prog 131 = true := by kernel_rfl
theorem en132 : enB Try.prog 132 = true := by kernel_rfl
theorem en133 : enB Try.prog 133 = true := by kernel_rfl
theorem en134 : enB Try.prog 134 = true := by kernel_rfl
theorem en135 : enB Try.prog 135 = true := by kernel_rfl
theorem en136 : enB Try.prog 136 = true := by kernel_rfl
theorem en137 : enB Try.prog 137 = true := by kernel_rfl
theorem en138 : enB Try.prog 138 = true := by kernel_rfl
theorem en139 : enB Try.prog 139 = true := by kernel_rfl
theorem en140 : enB Try.prog 140 = true := by kernel_rfl
theorem en141 : enB Try.prog 141 = true := by kernel_rfl
theorem en142 : enB Try.prog 142 = true := by kernel_rfl
theorem en143 : enB Try.prog 143 = true := by kernel_rfl
theorem en144 : enB Try.prog 144 = true := by kernel_rfl
theorem en145 : enB Try.prog 145 = true := by kernel_rfl
theorem en146 : enB Try.prog 146 = true := by kernel_rfl
theorem en147 : enB Try.prog 147 = true := by kernel_rfl
theorem en148 : enB Try.prog 148 = true := by kernel_rfl
theorem sz3 : szB Try.prog 3 false 1 = true := by kernel_rfl
theorem by3 : byB Try.prog 3 8 = true := by kernel_rfl
theorem zr3 : zrB Try.prog 3 (.int .i64 0) := by unfold zrB; kernel_rfl
theorem int3 : intB Try.prog 3 .i64 = true := by kernel_rfl
theorem sz22 : szB Try.prog 22 false 1 = true := by kernel_rfl
theorem sl22 : slB Try.prog 22 38 2 = true := by kernel_rfl
theorem isl22 : isSl Try.prog 22 = true := by kernel_rfl
theorem sz24 : szB Try.prog 24 true 4 = true := by kernel_rfl
theorem zr24 : zrB Try.prog 24 (.agg #[.int .i64 0, .int .i64 0, .int .i64 0, .int .i64 0]) := by unfold zrB; kernel_rfl
theorem fld24_0 : fldB Try.prog 24 0 0 = true := by kernel_rfl
theorem fld24_1 : fldB Try.prog 24 1 1 = true := by kernel_rfl
theorem fld24_2 : fldB Try.prog 24 2 2 = true := by kernel_rfl
theorem fld24_3 : fldB Try.prog 24 3 3 = true := by kernel_rfl
theorem pl24 : plB Try.prog 24 [(0, 1), (1, 1), (2, 1), (3, 1)] = true := by kernel_rfl
theorem sz26 : szB Try.prog 26 true 2 = true := by kernel_rfl
theorem zr26 : zrB Try.prog 26 (.agg #[.int .i64 0, .int .i64 0]) := by unfold zrB; kernel_rfl
theorem fld26_0 : fldB Try.prog 26 0 0 = true := by kernel_rfl
theorem fld26_1 : fldB Try.prog 26 1 1 = true := by kernel_rfl
theorem pl26 : plB Try.prog 26 [(0, 1), (1, 1)] = true := by kernel_rfl
theorem sz28 : szB Try.prog 28 true 11 = true := by kernel_rfl
theorem zr28 : zrB Try.prog 28 (.agg #[.slice none 0 0, .int .i64 0, .int .i64 0, .int .i64 0, .int .i64 0, .int .i64 0, .int .i64 0, .int .i64 0, .int .i64 0, .int .i64 0, .int .i64 0]) := by unfold zrB; kernel_rfl
theorem fld28_0 : fldB Try.prog 28 0 0 = true := by kernel_rfl
theorem fld28_1 : fldB Try.prog 28 1 1 = true := by kernel_rfl
theorem fld28_2 : fldB Try.prog 28 2 5 = true := by kernel_rfl
theorem fld28_3 : fldB Try.prog 28 3 9 = true := by kernel_rfl
theorem pl28 : plB Try.prog 28 [(0, 1), (1, 4), (5, 4), (9, 2)] = true := by kernel_rfl
theorem sz31 : szB Try.prog 31 false 1 = true := by kernel_rfl
theorem zr31 : zrB Try.prog 31 (.int .i64 0) := by unfold zrB; kernel_rfl
theorem sz38 : szB Try.prog 38 true 2 = true := by kernel_rfl
theorem by38 : byB Try.prog 38 16 = true := by kernel_rfl
theorem zr38 : zrB Try.prog 38 (.agg #[.int .i64 0, .int .i64 0]) := by unfold zrB; kernel_rfl
theorem fld38_0 : fldB Try.prog 38 0 0 = true := by kernel_rfl
theorem fld38_1 : fldB Try.prog 38 1 1 = true := by kernel_rfl
theorem pl38 : plB Try.prog 38 [(0, 1), (1, 1)] = true := by kernel_rfl
theorem eqi38 : EqI Try.prog 38 2 := by
  intro xs ys hx hy w
  match xs, ys, hx, hy with
  | [a0, a1], [b0, b1], _, _ =>
    refine ⟨fun x y => run_eqGuard_agg w .eql 38 x y _ _ (by kernel_rfl), fun x y => run_eqGuard_agg w .neq 38 x y _ _ (by kernel_rfl), ?_⟩
    have hf : (Try.prog.fieldsOf 38).toList = [⟨ "X", 3, 0, false, "", "", 0⟩, ⟨ "Z", 3, 1, false, "", "", 8⟩] := by kernel_rfl
    rw [show (10000 : Nat) = 9998 + 1 + 1 from rfl, run_equalIn_struct w (9998 + 1) 38 _ _ (by kernel_rfl) (by kernel_rfl), hf]
    have u3 := Try.underlying3; 
    simp [Op.eqFields, part, isAgg, run_underlying u3, iW, run_equalIn_int, u3, Result.andThen]
    (repeat' split) <;> simp_all
theorem sz40 : szB Try.prog 40 true 8 = true := by kernel_rfl
theorem by40 : byB Try.prog 40 64 = true := by kernel_rfl
theorem zr40 : zrB Try.prog 40 (.agg #[.int .i64 0, .int .i64 0, .int .i64 0, .int .i64 0, .int .i64 0, .int .i64 0, .int .i64 0, .int .i64 0]) := by unfold zrB; kernel_rfl
theorem fld40_0 : fldB Try.prog 40 0 0 = true := by kernel_rfl
theorem fld40_1 : fldB Try.prog 40 1 1 = true := by kernel_rfl
theorem fld40_2 : fldB Try.prog 40 2 3 = true := by kernel_rfl
theorem fld40_3 : fldB Try.prog 40 3 5 = true := by kernel_rfl
theorem fld40_4 : fldB Try.prog 40 4 6 = true := by kernel_rfl
theorem fld40_5 : fldB Try.prog 40 5 7 = true := by kernel_rfl
theorem pl40 : plB Try.prog 40 [(0, 1), (1, 2), (3, 2), (5, 1), (6, 1), (7, 1)] = true := by kernel_rfl
theorem sz41 : szB Try.prog 41 false 1 = true := by kernel_rfl
theorem sl41 : slB Try.prog 41 49 3 = true := by kernel_rfl
theorem isl41 : isSl Try.prog 41 = true := by kernel_rfl
theorem sz49 : szB Try.prog 49 true 3 = true := by kernel_rfl
theorem by49 : byB Try.prog 49 24 = true := by kernel_rfl
theorem zr49 : zrB Try.prog 49 (.agg #[.int .i64 0, .int .i64 0, .int .i64 0]) := by unfold zrB; kernel_rfl
theorem fld49_0 : fldB Try.prog 49 0 0 = true := by kernel_rfl
theorem fld49_1 : fldB Try.prog 49 1 2 = true := by kernel_rfl
theorem pl49 : plB Try.prog 49 [(0, 2), (2, 1)] = true := by kernel_rfl
theorem sz51 : szB Try.prog 51 false 1 = true := by kernel_rfl
theorem sl51 : slB Try.prog 51 3 1 = true := by kernel_rfl
theorem isl51 : isSl Try.prog 51 = true := by kernel_rfl
theorem sz52 : szB Try.prog 52 false 1 = true := by kernel_rfl
theorem sl52 : slB Try.prog 52 40 8 = true := by kernel_rfl
theorem isl52 : isSl Try.prog 52 = true := by kernel_rfl
theorem sz54 : szB Try.prog 54 true 13 = true := by kernel_rfl
theorem zr54 : zrB Try.prog 54 (.agg #[.slice none 0 0, .int .i64 0, .int .i64 0, .int .i64 0, .int .i64 0, .int .i64 0, .int .i64 0, .int .i64 0, .int .i64 0, .int .i64 0, .int .i64 0, .slice none 0 0, .slice none 0 0]) := by unfold zrB; kernel_rfl
theorem fld54_0 : fldB Try.prog 54 0 0 = true := by kernel_rfl
theorem fd54_0 : (match Try.prog.underlying 54 with | some (.struct fs) => (fs[0]?).map (fun fd => (fd.offset, fd.type)) | _ => none) = some (0, 28) := by kernel_rfl
theorem fld54_1 : fldB Try.prog 54 1 11 = true := by kernel_rfl
theorem fld54_2 : fldB Try.prog 54 2 12 = true := by kernel_rfl
theorem pl54 : plB Try.prog 54 [(0, 11), (11, 1), (12, 1)] = true := by kernel_rfl
theorem sz59 : szB Try.prog 59 false 1 = true := by kernel_rfl
theorem flt59 : fltB Try.prog 59 .f32 = true := by kernel_rfl
theorem sz61 : szB Try.prog 61 true 64 = true := by kernel_rfl
theorem zr61 : zrB Try.prog 61 (.agg #[.float .f32 0, .float .f32 0, .float .f32 0, .float .f32 0, .float .f32 0, .float .f32 0, .float .f32 0, .float .f32 0, .float .f32 0, .float .f32 0, .float .f32 0, .float .f32 0, .float .f32 0, .float .f32 0, .float .f32 0, .float .f32 0, .float .f32 0, .float .f32 0, .float .f32 0, .float .f32 0, .float .f32 0, .float .f32 0, .float .f32 0, .float .f32 0, .float .f32 0, .float .f32 0, .float .f32 0, .float .f32 0, .float .f32 0, .float .f32 0, .float .f32 0, .float .f32 0, .float .f32 0, .float .f32 0, .float .f32 0, .float .f32 0, .float .f32 0, .float .f32 0, .float .f32 0, .float .f32 0, .float .f32 0, .float .f32 0, .float .f32 0, .float .f32 0, .float .f32 0, .float .f32 0, .float .f32 0, .float .f32 0, .float .f32 0, .float .f32 0, .float .f32 0, .float .f32 0, .float .f32 0, .float .f32 0, .float .f32 0, .float .f32 0, .float .f32 0, .float .f32 0, .float .f32 0, .float .f32 0, .float .f32 0, .float .f32 0, .float .f32 0, .float .f32 0]) := by unfold zrB; kernel_rfl
theorem ar61 : arB Try.prog 61 64 59 1 = true := by kernel_rfl
theorem sz75 : szB Try.prog 75 true 2 = true := by kernel_rfl
theorem zr75 : zrB Try.prog 75 (.agg #[.int .i64 0, .int .i64 0]) := by unfold zrB; kernel_rfl
theorem ar75 : arB Try.prog 75 2 3 1 = true := by kernel_rfl
theorem sl84 : slB Try.prog 84 59 1 = true := by kernel_rfl
theorem isl84 : isSl Try.prog 84 = true := by kernel_rfl
theorem zr120 : zrB Try.prog 120 (.agg #[.int .i64 0, .int .i64 0, .int .i64 0, .int .i64 0, .int .i64 0, .int .i64 0, .int .i64 0, .int .i64 0, .int .i64 0, .int .i64 0, .int .i64 0, .int .i64 0, .int .i64 0, .int .i64 0, .int .i64 0, .int .i64 0, .int .i64 0, .int .i64 0, .int .i64 0, .int .i64 0, .int .i64 0, .int .i64 0, .int .i64 0, .int .i64 0, .int .i64 0, .int .i64 0, .int .i64 0, .int .i64 0, .int .i64 0, .int .i64 0, .int .i64 0, .int .i64 0, .int .i64 0, .int .i64 0, .int .i64 0, .int .i64 0, .int .i64 0, .int .i64 0, .int .i64 0, .int .i64 0, .int .i64 0, .int .i64 0, .int .i64 0, .int .i64 0, .int .i64 0, .int .i64 0, .int .i64 0, .int .i64 0, .int .i64 0, .int .i64 0, .int .i64 0, .int .i64 0, .int .i64 0, .int .i64 0, .int .i64 0, .int .i64 0, .int .i64 0, .int .i64 0, .int .i64 0, .int .i64 0, .int .i64 0, .int .i64 0, .int .i64 0, .int .i64 0]) := by unfold zrB; kernel_rfl
theorem ar120 : arB Try.prog 120 64 3 1 = true := by kernel_rfl
theorem sz134 : szB Try.prog 134 true 11 = true := by kernel_rfl
theorem zr134 : zrB Try.prog 134 (.agg #[.slice none 0 0, .int .i64 0, .int .i64 0, .int .i64 0, .int .i64 0, .int .i64 0, .int .i64 0, .int .i64 0, .int .i64 0, .int .i64 0, .int .i64 0]) := by unfold zrB; kernel_rfl
theorem fld134_0 : fldB Try.prog 134 0 0 = true := by kernel_rfl
theorem pl134 : plB Try.prog 134 [(0, 11)] = true := by kernel_rfl
theorem sz136 : szB Try.prog 136 true 13 = true := by kernel_rfl
theorem zr136 : zrB Try.prog 136 (.agg #[.slice none 0 0, .int .i64 0, .int .i64 0, .int .i64 0, .int .i64 0, .int .i64 0, .int .i64 0, .int .i64 0, .int .i64 0, .int .i64 0, .int .i64 0, .slice none 0 0, .slice none 0 0]) := by unfold zrB; kernel_rfl
theorem fld136_0 : fldB Try.prog 136 0 0 = true := by kernel_rfl
theorem fld136_1 : fldB Try.prog 136 1 11 = true := by kernel_rfl
theorem fld136_2 : fldB Try.prog 136 2 12 = true := by kernel_rfl
theorem pl136 : plB Try.prog 136 [(0, 11), (11, 1), (12, 1)] = true := by kernel_rfl
theorem sl155 : slB Try.prog 155 31 1 = true := by kernel_rfl
theorem isl155 : isSl Try.prog 155 = true := by kernel_rfl
theorem sz180 : szB Try.prog 180 true 2 = true := by kernel_rfl
theorem zr180 : zrB Try.prog 180 (.agg #[.int .i64 0, .int .i64 0]) := by unfold zrB; kernel_rfl
theorem fld180_0 : fldB Try.prog 180 0 0 = true := by kernel_rfl
theorem fld180_1 : fldB Try.prog 180 1 1 = true := by kernel_rfl
theorem pl180 : plB Try.prog 180 [(0, 1), (1, 1)] = true := by kernel_rfl
theorem zr184 : zrB Try.prog 184 (.agg #[.int .i64 0, .int .i64 0, .int .i64 0, .int .i64 0, .int .i64 0, .int .i64 0]) := by unfold zrB; kernel_rfl
theorem fld184_0 : fldB Try.prog 184 0 0 = true := by kernel_rfl
theorem fld184_1 : fldB Try.prog 184 1 1 = true := by kernel_rfl
theorem fld184_2 : fldB Try.prog 184 2 2 = true := by kernel_rfl
theorem fld184_3 : fldB Try.prog 184 3 3 = true := by kernel_rfl
theorem fld184_4 : fldB Try.prog 184 4 4 = true := by kernel_rfl
theorem fld184_5 : fldB Try.prog 184 5 5 = true := by kernel_rfl
theorem pl184 : plB Try.prog 184 [(0, 1), (1, 1), (2, 1), (3, 1), (4, 1), (5, 1)] = true := by kernel_rfl
theorem sz186 : szB Try.prog 186 true 6 = true := by kernel_rfl
theorem zr186 : zrB Try.prog 186 (.agg #[.int .i64 0, .int .i64 0, .int .i64 0, .int .i64 0, .int .i64 0, .int .i64 0]) := by unfold zrB; kernel_rfl
theorem fld186_0 : fldB Try.prog 186 0 0 = true := by kernel_rfl
theorem pl186 : plB Try.prog 186 [(0, 6)] = true := by kernel_rfl
theorem int198 : intB Try.prog 198 .u64 = true := by kernel_rfl
theorem sz199 : szB Try.prog 199 false 1 = true := by kernel_rfl
theorem int199 : intB Try.prog 199 .u64 = true := by kernel_rfl
theorem sz201 : szB Try.prog 201 true 2 = true := by kernel_rfl
theorem zr201 : zrB Try.prog 201 (.agg #[.int .u64 0, .int .u64 0]) := by unfold zrB; kernel_rfl
theorem fld201_0 : fldB Try.prog 201 0 0 = true := by kernel_rfl
theorem fld201_1 : fldB Try.prog 201 1 1 = true := by kernel_rfl
theorem pl201 : plB Try.prog 201 [(0, 1), (1, 1)] = true := by kernel_rfl
theorem eqk201 : EqK Try.prog .u64 201 2 := by
  intro xs ys hx hy w
  match xs, ys, hx, hy with
  | [a0, a1], [b0, b1], _, _ =>
    refine ⟨fun x y => run_eqGuard_agg w .eql 201 x y _ _ (by kernel_rfl), fun x y => run_eqGuard_agg w .neq 201 x y _ _ (by kernel_rfl), ?_⟩
    have hf : (Try.prog.fieldsOf 201).toList = [⟨ "high", 199, 0, false, "", "couplant/ray", 0⟩, ⟨ "low", 199, 1, false, "", "couplant/ray", 8⟩] := by kernel_rfl
    rw [show (10000 : Nat) = 9998 + 1 + 1 from rfl, run_equalIn_struct w (9998 + 1) 201 _ _ (by kernel_rfl) (by kernel_rfl), hf]
    have u199 := Try.underlying199; 
    simp [Op.eqFields, part, isAgg, run_underlying u199, kW, run_equalIn_int, u199, Result.andThen]
    (repeat' split) <;> simp_all
end Go.Proofs.Ytblbnagdhcpnoaa.Am
