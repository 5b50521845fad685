/- Closed facts of the program's types and functions. Conditions: none. -/
import Derived.Test.YtblbnagdhcpnoaaGreatRows
import Derived.Test.YtblbnagdhcpnoaaGreatAmD
import Derived.ChangeKeysEq
set_option linter.unusedVariables false
set_option linter.unusedSimpArgs false
namespace Go.Proofs.YtblbnagdhcpnoaaGreat.Am
open Go
theorem mixed : Tryz.prog.follows .mixedOrders = true := by kernel_rfl
theorem en9 : enB Tryz.prog 9 = true := by kernel_rfl
theorem en10 : enB Tryz.prog 10 = true := by kernel_rfl
theorem en11 : enB Tryz.prog 11 = true := by kernel_rfl
theorem en12 : enB Tryz.prog 12 = true := by kernel_rfl
theorem en13 : enB Tryz.prog 13 = true := by kernel_rfl
theorem en15 : enB Tryz.prog 15 = true := by kernel_rfl
theorem en16 : enB Tryz.prog 16 = true := by kernel_rfl
theorem en20 : enB Tryz.prog 20 = true := by kernel_rfl
theorem en21 : enB Tryz.prog 21 = true := by kernel_rfl
theorem en22 : enB Tryz.prog 22 = true := by kernel_rfl
theorem en24 : enB Tryz.prog 24 = true := by kernel_rfl
theorem en25 : enB Tryz.prog 25 = true := by kernel_rfl
theorem en26 : enB Tryz.prog 26 = true := by kernel_rfl
theorem en30 : enB Tryz.prog 30 = true := by kernel_rfl
theorem en32 : enB Tryz.prog 32 = true := by kernel_rfl
theorem en33 : enB Tryz.prog 33 = true := by kernel_rfl
theorem en38 : enB Tryz.prog 38 = true := by kernel_rfl
theorem en39 : enB Tryz.prog 39 = true := by kernel_rfl
theorem en40 : enB Tryz.prog 40 = true := by kernel_rfl
theorem en41 : enB Tryz.prog 41 = true := by kernel_rfl
theorem en42 : enB Tryz.prog 42 = true := by kernel_rfl
theorem en43 : enB Tryz.prog 43 = true := by kernel_rfl
theorem en44 : enB Tryz.prog 44 = true := by kernel_rfl
theorem en45 : enB Tryz.prog 45 = true := by kernel_rfl
theorem en46 : enB Tryz.prog 46 = true := by kernel_rfl
theorem en47 : enB Tryz.prog 47 = true := by kernel_rfl
theorem en48 : enB Tryz.prog 48 = true := by kernel_rfl
theorem en49 : enB Tryz.prog 49 = true := by kernel_rfl
theorem en50 : enB Tryz.prog 50 = true := by kernel_rfl
theorem en51 : enB Tryz.prog 51 = true := by kernel_rfl
theorem en52 : enB Tryz.prog 52 = true := by kernel_rfl
theorem en53 : enB Tryz.prog 53 = true := by kernel_rfl
theorem en54 : enB Tryz.prog 54 = true := by kernel_rfl
theorem en55 : enB Tryz.prog 55 = true := by kernel_rfl
theorem en56 : enB Tryz.prog 56 = true := by kernel_rfl
theorem en57 : enB Tryz.prog 57 = true := by kernel_rfl
theorem en58 : enB Tryz.prog 58 = true := by kernel_rfl
theorem en59 : enB Tryz.prog 59 = true := by kernel_rfl
theorem en60 : enB Tryz.prog 60 = true := by kernel_rfl
theorem en64 : enB Tryz.prog 64 = true := by kernel_rfl
theorem en65 : enB Tryz.prog 65 = true := by kernel_rfl
theorem en66 : enB Tryz.prog 66 = true := by kernel_rfl
theorem en68 : enB Tryz.prog 68 = true := by kernel_rfl
theorem en69 : enB Tryz.prog 69 = true := by kernel_rfl
theorem en70 : enB Tryz.prog 70 = true := by kernel_rfl
theorem en71 : enB Tryz.prog 71 = true := by kernel_rfl
theorem en72 : enB Tryz.prog 72 = true := by kernel_rfl
theorem en73 : enB Tryz.prog 73 = true := by kernel_rfl
theorem en75 : enB Tryz.prog 75 = true := by kernel_rfl
theorem en78 : enB Tryz.prog 78 = true := by kernel_rfl
theorem en79 : enB Tryz.prog 79 = true := by kernel_rfl
theorem en80 : enB Tryz.prog 80 = true := by kernel_rfl
theorem en81 : enB Tryz.prog 81 = true := by kernel_rfl
theorem en82 : enB Tryz.prog 82 = true := by kernel_rfl
theorem en83 : enB Tryz.prog 83 = true := by kernel_rfl
theorem en84 : enB Tryz.prog 84 = true := by kernel_rfl
theorem en85 : enB Tryz.prog 85 = true := by kernel_rfl
theorem en86 : enB Tryz.prog 86 = true := by kernel_rfl
theorem en87 : enB Tryz.prog 87 = true := by kernel_rfl
theorem en88 : enB Tryz.prog 88 = true := by kernel_rfl
theorem en89 : enB Tryz.prog 89 = true := by kernel_rfl
theorem en90 : enB Tryz.prog 90 = true := by kernel_rfl
theorem en92 : enB Tryz.prog 92 = true := by kernel_rfl
theorem en95 : enB Tryz.prog 95 = true := by kernel_rfl
theorem en96 : enB Tryz.prog 96 = true := by kernel_rfl
theorem en97 : enB Tryz.prog 97 = true := by kernel_rfl
theorem en98 : enB Tryz.prog 98 = true := by kernel_rfl
theorem en99 : enB Tryz.prog 99 = true := by kernel_rfl
theorem en100 : enB Tryz.prog 100 = true := by kernel_rfl
theorem en101 : enB Tryz.prog 101 = true := by kernel_rfl
theorem en102 : enB Tryz.prog 102 = true := by kernel_rfl
theorem en103 : enB Tryz.prog 103 = true := by kernel_rfl
theorem en104 : enB Tryz.prog 104 = true := by kernel_rfl
theorem en105 : enB Tryz.prog 105 = true := by kernel_rfl
theorem en106 : enB Tryz.prog 106 = true := by kernel_rfl
theorem en107 : enB Tryz.prog 107 = true := by kernel_rfl
theorem en108 : enB Tryz.prog 108 = true := by kernel_rfl
theorem en109 : enB Tryz.prog 109 = true := by kernel_rfl
theorem en110 : enB Tryz.prog 110 = true := by kernel_rfl
theorem en112 : enB Tryz.prog 112 = true := by kernel_rfl
theorem en113 : enB Tryz.prog 113 = true := by kernel_rfl
theorem en114 : enB Tryz.prog 114 = true := by kernel_rfl
theorem en115 : enB Tryz.prog 115 = true := by kernel_rfl
theorem en116 : enB Tryz.prog 116 = true := by kernel_rfl
theorem en117 : enB Tryz.prog 117 = true := by kernel_rfl
theorem en118 : enB Tryz.prog 118 = true := by kernel_rfl
theorem en119 : enB Tryz.prog 119 = true := by kernel_rfl
theorem en120 : enB Tryz.prog 120 = true := by kernel_rfl
theorem en121 : enB Tryz.prog 121 = true := by kernel_rfl
theorem en122 : enB Tryz.prog 122 = true := by kernel_rfl
theorem en123 : enB Tryz.prog 123 = true := by kernel_rfl
theorem en124 : enB Tryz.prog 124 = true := by kernel_rfl
theorem en125 : enB Tryz.prog 125 = true := by kernel_rfl
theorem en126 : enB Tryz.prog 126 = true := by kernel_rfl
theorem en127 : enB Tryz.prog 127 = true := by kernel_rfl
theorem en128 : enB Tryz.prog 128 = true := by kernel_rfl
theorem en129 : enB Tryz.prog 129 = true := by kernel_rfl
theorem en130 : enB Tryz.prog 130 = true := by kernel_rfl
theorem en131 : enB Tryz.prog 131 = true := by kernel_rfl
theorem en132 : enB Tryz.prog 132 = true := by kernel_rfl
theorem en133 : enB Tryz.prog 133 = true := by kernel_rfl
theorem en134 : enB Tryz.prog 134 = true := by kernel_rfl
theorem en135 : enB Tryz.prog 135 = true := by kernel_rfl
theorem en136 : enB Tryz.prog 136 = true := by kernel_rfl
theorem en137 : enB Tryz.prog 137 = true := by kernel_rfl
theorem en138 : enB Tryz.prog 138 = true := by kernel_rfl
theorem en139 : enB Tryz.prog 139 = true := by kernel_rfl
theorem en140 : enB Tryz.prog 140 = true := by kernel_rfl
theorem en141 : enB Tryz.prog 141 = true := by kernel_rfl
theorem en142 : enB Tryz.prog 142 = true := by kernel_rfl
theorem en143 : enB Tryz.prog 143 = true := by kernel_rfl
theorem en144 : enB Tryz.prog 144 = true := by kernel_rfl
theorem en145 : enB Tryz.prog 145 = true := by kernel_rfl
theorem en146 : enB Tryz.prog 146 = true := by kernel_rfl
theorem en147 : enB Tryz.prog 147 = true := by kernel_rfl
theorem en148 : enB Tryz.prog 148 = true := by kernel_rfl
theorem en149 : enB Tryz.prog 149 = true := by kernel_rfl
theorem en150 : enB Tryz.prog 150 = true := by kernel_rfl
theorem en151 : enB Tryz.prog 151 = true := by kernel_rfl
theorem en152 : enB Tryz.prog 152 = true := by kernel_rfl
theorem en153 : enB Tryz.prog 153 = true := by kernel_rfl
theorem en154 : enB Tryz.prog 154 = true := by kernel_rfl
theorem en155 : enB Tryz.prog 155 = true := by kernel_rfl
theorem en156 : enB Tryz.prog 156 = true := by kernel_rfl
theorem en157 : enB Tryz.prog 157 = true := by kernel_rfl
theorem en158 : enB Tryz.prog 158 = true := by kernel_rfl
theorem en159 : enB Tryz.prog 159 = true := by kernel_rfl
theorem sz3 : szB Tryz.prog 3 false 1 = true := by kernel_rfl
theorem by3 : byB Tryz.prog 3 8 = true := by kernel_rfl
theorem zr3 : zrB Tryz.prog 3 (.int .i64 0) := by unfold zrB; kernel_rfl
theorem int3 : intB Tryz.prog 3 .i64 = true := by kernel_rfl
theorem sz22 : szB Tryz.prog 22 false 1 = true := by kernel_rfl
theorem sl22 : slB Tryz.prog 22 50 2 = true := by kernel_rfl
theorem isl22 : isSl Tryz.prog 22 = true := by kernel_rfl
theorem sz24 : szB Tryz.prog 24 true 4 = true := by kernel_rfl
theorem zr24 : zrB Tryz.prog 24 (.agg #[.int .i64 0, .int .i64 0, .int .i64 0, .int .i64 0]) := by unfold zrB; kernel_rfl
theorem fld24_0 : fldB Tryz.prog 24 0 0 = true := by kernel_rfl
theorem fld24_1 : fldB Tryz.prog 24 1 1 = true := by kernel_rfl
theorem fld24_2 : fldB Tryz.prog 24 2 2 = true := by kernel_rfl
theorem fld24_3 : fldB Tryz.prog 24 3 3 = true := by kernel_rfl
theorem pl24 : plB Tryz.prog 24 [(0, 1), (1, 1), (2, 1), (3, 1)] = true := by kernel_rfl
theorem sz26 : szB Tryz.prog 26 true 2 = true := by kernel_rfl
theorem zr26 : zrB Tryz.prog 26 (.agg #[.int .i64 0, .int .i64 0]) := by unfold zrB; kernel_rfl
theorem fld26_0 : fldB Tryz.prog 26 0 0 = true := by kernel_rfl
theorem fld26_1 : fldB Tryz.prog 26 1 1 = true := by kernel_rfl
theorem pl26 : plB Tryz.prog 26 [(0, 1), (1, 1)] = true := by kernel_rfl
theorem sz28 : szB Tryz.prog 28 true 11 = true := by kernel_rfl
theorem zr28 : zrB Tryz.prog 28 (.agg #[.slice none 0 0, .int .i64 0, .int .i64 0, .int .i64 0, .int .i64 0, .int .i64 0, .int .i64 0, .int .i64 0, .int .i64 0, .int .i64 0, .int .i64 0]) := by unfold zrB; kernel_rfl
theorem fld28_0 : fldB Tryz.prog 28 0 0 = true := by kernel_rfl
theorem fld28_1 : fldB Tryz.prog 28 1 1 = true := by kernel_rfl
theorem fld28_2 : fldB Tryz.prog 28 2 5 = true := by kernel_rfl
theorem fld28_3 : fldB Tryz.prog 28 3 9 = true := by kernel_rfl
theorem pl28 : plB Tryz.prog 28 [(0, 1), (1, 4), (5, 4), (9, 2)] = true := by kernel_rfl
theorem sz29 : szB Tryz.prog 29 false 1 = true := by kernel_rfl
theorem sl29 : slB Tryz.prog 29 3 1 = true := by kernel_rfl
theorem isl29 : isSl Tryz.prog 29 = true := by kernel_rfl
theorem sz30 : szB Tryz.prog 30 false 1 = true := by kernel_rfl
theorem sl30 : slB Tryz.prog 30 95 8 = true := by kernel_rfl
theorem isl30 : isSl Tryz.prog 30 = true := by kernel_rfl
theorem sz32 : szB Tryz.prog 32 true 13 = true := by kernel_rfl
theorem zr32 : zrB Tryz.prog 32 (.agg #[.slice none 0 0, .int .i64 0, .int .i64 0, .int .i64 0, .int .i64 0, .int .i64 0, .int .i64 0, .int .i64 0, .int .i64 0, .int .i64 0, .int .i64 0, .slice none 0 0, .slice none 0 0]) := by unfold zrB; kernel_rfl
theorem fld32_0 : fldB Tryz.prog 32 0 0 = true := by kernel_rfl
theorem fd32_0 : (match Tryz.prog.underlying 32 with | some (.struct fs) => (fs[0]?).map (fun fd => (fd.offset, fd.type)) | _ => none) = some (0, 28) := by kernel_rfl
theorem fld32_1 : fldB Tryz.prog 32 1 11 = true := by kernel_rfl
theorem fld32_2 : fldB Tryz.prog 32 2 12 = true := by kernel_rfl
theorem pl32 : plB Tryz.prog 32 [(0, 11), (11, 1), (12, 1)] = true := by kernel_rfl
theorem sz33 : szB Tryz.prog 33 true 2 = true := by kernel_rfl
theorem zr33 : zrB Tryz.prog 33 (.agg #[.int .i64 0, .int .i64 0]) := by unfold zrB; kernel_rfl
theorem ar33 : arB Tryz.prog 33 2 3 1 = true := by kernel_rfl
theorem sz36 : szB Tryz.prog 36 false 1 = true := by kernel_rfl
theorem by36 : byB Tryz.prog 36 4 = true := by kernel_rfl
theorem zr36 : zrB Tryz.prog 36 (.float .f32 0) := by unfold zrB; kernel_rfl
theorem flt36 : fltB Tryz.prog 36 .f32 = true := by kernel_rfl
theorem sz38 : szB Tryz.prog 38 true 64 = true := by kernel_rfl
theorem zr38 : zrB Tryz.prog 38 (.agg #[.float .f32 0, .float .f32 0, .float .f32 0, .float .f32 0, .float .f32 0, .float .f32 0, .float .f32 0, .float .f32 0, .float .f32 0, .float .f32 0, .float .f32 0, .float .f32 0, .float .f32 0, .float .f32 0, .float .f32 0, .float .f32 0, .float .f32 0, .float .f32 0, .float .f32 0, .float .f32 0, .float .f32 0, .float .f32 0, .float .f32 0, .float .f32 0, .float .f32 0, .float .f32 0, .float .f32 0, .float .f32 0, .float .f32 0, .float .f32 0, .float .f32 0, .float .f32 0, .float .f32 0, .float .f32 0, .float .f32 0, .float .f32 0, .float .f32 0, .float .f32 0, .float .f32 0, .float .f32 0, .float .f32 0, .float .f32 0, .float .f32 0, .float .f32 0, .float .f32 0, .float .f32 0, .float .f32 0, .float .f32 0, .float .f32 0, .float .f32 0, .float .f32 0, .float .f32 0, .float .f32 0, .float .f32 0, .float .f32 0, .float .f32 0, .float .f32 0, .float .f32 0, .float .f32 0, .float .f32 0, .float .f32 0, .float .f32 0, .float .f32 0, .float .f32 0]) := by unfold zrB; kernel_rfl
theorem ar38 : arB Tryz.prog 38 64 36 1 = true := by kernel_rfl
theorem sz39 : szB Tryz.prog 39 false 1 = true := by kernel_rfl
theorem zr39 : zrB Tryz.prog 39 (.int .i64 0) := by unfold zrB; kernel_rfl
theorem sz50 : szB Tryz.prog 50 true 2 = true := by kernel_rfl
theorem by50 : byB Tryz.prog 50 16 = true := by kernel_rfl
theorem zr50 : zrB Tryz.prog 50 (.agg #[.int .i64 0, .int .i64 0]) := by unfold zrB; kernel_rfl
theorem fld50_0 : fldB Tryz.prog 50 0 0 = true := by kernel_rfl
theorem fld50_1 : fldB Tryz.prog 50 1 1 = true := by kernel_rfl
theorem pl50 : plB Tryz.prog 50 [(0, 1), (1, 1)] = true := by kernel_rfl
theorem eqi50 : EqI Tryz.prog 50 2 := by
  intro xs ys hx hy w
  match xs, ys, hx, hy with
  | [a0, a1], [b0, b1], _, _ =>
    refine ⟨fun x y => run_eqGuard_agg w .eql 50 x y _ _ (by kernel_rfl), fun x y => run_eqGuard_agg w .neq 50 x y _ _ (by kernel_rfl), ?_⟩
    have hf : (Tryz.prog.fieldsOf 50).toList = [⟨ "X", 3, 0, false, "", "", 0⟩, ⟨ "Z", 3, 1, false, "", "", 8⟩] := by kernel_rfl
    rw [show (10000 : Nat) = 9998 + 1 + 1 from rfl, run_equalIn_struct w (9998 + 1) 50 _ _ (by kernel_rfl) (by kernel_rfl), hf]
    have u3 := Tryz.underlying3; 
    simp [Op.eqFields, part, isAgg, run_underlying u3, iW, run_equalIn_int, u3, Result.andThen]
    (repeat' split) <;> simp_all
theorem sz57 : szB Tryz.prog 57 false 1 = true := by kernel_rfl
theorem sl57 : slB Tryz.prog 57 36 1 = true := by kernel_rfl
theorem isl57 : isSl Tryz.prog 57 = true := by kernel_rfl
theorem sz59 : szB Tryz.prog 59 true 2 = true := by kernel_rfl
theorem by59 : byB Tryz.prog 59 32 = true := by kernel_rfl
theorem zr59 : zrB Tryz.prog 59 (.agg #[.int .i64 0, .slice none 0 0]) := by unfold zrB; kernel_rfl
theorem fld59_0 : fldB Tryz.prog 59 0 0 = true := by kernel_rfl
theorem fld59_1 : fldB Tryz.prog 59 1 1 = true := by kernel_rfl
theorem pl59 : plB Tryz.prog 59 [(0, 1), (1, 1)] = true := by kernel_rfl
theorem sz71 : szB Tryz.prog 71 true 2 = true := by kernel_rfl
theorem zr71 : zrB Tryz.prog 71 (.agg #[.int .i64 0, .int .i64 0]) := by unfold zrB; kernel_rfl
theorem fld71_0 : fldB Tryz.prog 71 0 0 = true := by kernel_rfl
theorem fld71_1 : fldB Tryz.prog 71 1 1 = true := by kernel_rfl
theorem pl71 : plB Tryz.prog 71 [(0, 1), (1, 1)] = true := by kernel_rfl
theorem sl85 : slB Tryz.prog 85 59 2 = true := by kernel_rfl
theorem isl85 : isSl Tryz.prog 85 = true := by kernel_rfl
theorem sz91 : szB Tryz.prog 91 false 1 = true := by kernel_rfl
theorem sl91 : slB Tryz.prog 91 98 3 = true := by kernel_rfl
theorem isl91 : isSl Tryz.prog 91 = true := by kernel_rfl
theorem sz95 : szB Tryz.prog 95 true 8 = true := by kernel_rfl
theorem by95 : byB Tryz.prog 95 64 = true := by kernel_rfl
theorem zr95 : zrB Tryz.prog 95 (.agg #[.int .i64 0, .int .i64 0, .int .i64 0, .int .i64 0, .int .i64 0, .int .i64 0, .int .i64 0, .int .i64 0]) := by unfold zrB; kernel_rfl
theorem fld95_0 : fldB Tryz.prog 95 0 0 = true := by kernel_rfl
theorem fld95_1 : fldB Tryz.prog 95 1 1 = true := by kernel_rfl
theorem fld95_2 : fldB Tryz.prog 95 2 3 = true := by kernel_rfl
theorem fld95_3 : fldB Tryz.prog 95 3 5 = true := by kernel_rfl
theorem fld95_4 : fldB Tryz.prog 95 4 6 = true := by kernel_rfl
theorem fld95_5 : fldB Tryz.prog 95 5 7 = true := by kernel_rfl
theorem pl95 : plB Tryz.prog 95 [(0, 1), (1, 2), (3, 2), (5, 1), (6, 1), (7, 1)] = true := by kernel_rfl
theorem sz98 : szB Tryz.prog 98 true 3 = true := by kernel_rfl
theorem by98 : byB Tryz.prog 98 24 = true := by kernel_rfl
theorem zr98 : zrB Tryz.prog 98 (.agg #[.int .i64 0, .int .i64 0, .int .i64 0]) := by unfold zrB; kernel_rfl
theorem fld98_0 : fldB Tryz.prog 98 0 0 = true := by kernel_rfl
theorem fld98_1 : fldB Tryz.prog 98 1 2 = true := by kernel_rfl
theorem pl98 : plB Tryz.prog 98 [(0, 2), (2, 1)] = true := by kernel_rfl
theorem sz100 : szB Tryz.prog 100 true 11 = true := by kernel_rfl
theorem zr100 : zrB Tryz.prog 100 (.agg #[.slice none 0 0, .int .i64 0, .int .i64 0, .int .i64 0, .int .i64 0, .int .i64 0, .int .i64 0, .int .i64 0, .int .i64 0, .int .i64 0, .int .i64 0]) := by unfold zrB; kernel_rfl
theorem fld100_0 : fldB Tryz.prog 100 0 0 = true := by kernel_rfl
theorem pl100 : plB Tryz.prog 100 [(0, 11)] = true := by kernel_rfl
theorem sz102 : szB Tryz.prog 102 true 13 = true := by kernel_rfl
theorem zr102 : zrB Tryz.prog 102 (.agg #[.slice none 0 0, .int .i64 0, .int .i64 0, .int .i64 0, .int .i64 0, .int .i64 0, .int .i64 0, .int .i64 0, .int .i64 0, .int .i64 0, .int .i64 0, .slice none 0 0, .slice none 0 0]) := by unfold zrB; kernel_rfl
theorem fld102_0 : fldB Tryz.prog 102 0 0 = true := by kernel_rfl
theorem fld102_1 : fldB Tryz.prog 102 1 11 = true := by kernel_rfl
theorem fld102_2 : fldB Tryz.prog 102 2 12 = true := by kernel_rfl
theorem pl102 : plB Tryz.prog 102 [(0, 11), (11, 1), (12, 1)] = true := by kernel_rfl
theorem sz112 : szB Tryz.prog 112 true 64 = true := by kernel_rfl
theorem zr112 : zrB Tryz.prog 112 (.agg #[.int .i64 0, .int .i64 0, .int .i64 0, .int .i64 0, .int .i64 0, .int .i64 0, .int .i64 0, .int .i64 0, .int .i64 0, .int .i64 0, .int .i64 0, .int .i64 0, .int .i64 0, .int .i64 0, .int .i64 0, .int .i64 0, .int .i64 0, .int .i64 0, .int .i64 0, .int .i64 0, .int .i64 0, .int .i64 0, .int .i64 0, .int .i64 0, .int .i64 0, .int .i64 0, .int .i64 0, .int .i64 0, .int .i64 0, .int .i64 0, .int .i64 0, .int .i64 0, .int .i64 0, .int .i64 0, .int .i64 0, .int .i64 0, .int .i64 0, .int .i64 0, .int .i64 0, .int .i64 0, .int .i64 0, .int .i64 0, .int .i64 0, .int .i64 0, .int .i64 0, .int .i64 0, .int .i64 0, .int .i64 0, .int .i64 0, .int .i64 0, .int .i64 0, .int .i64 0, .int .i64 0, .int .i64 0, .int .i64 0, .int .i64 0, .int .i64 0, .int .i64 0, .int .i64 0, .int .i64 0, .int .i64 0, .int .i64 0, .int .i64 0, .int .i64 0]) := by unfold zrB; kernel_rfl
theorem ar112 : arB Tryz.prog 112 64 3 1 = true := by kernel_rfl
theorem sl146 : slB Tryz.prog 146 39 1 = true := by kernel_rfl
theorem isl146 : isSl Tryz.prog 146 = true := by kernel_rfl
theorem zr148 : zrB Tryz.prog 148 (.agg #[.int .i64 0, .int .i64 0, .int .i64 0, .int .i64 0, .int .i64 0, .int .i64 0, .int .i64 0, .int .i64 0, .int .i64 0, .int .i64 0, .int .i64 0, .int .i64 0, .int .i64 0, .int .i64 0, .int .i64 0, .int .i64 0, .int .i64 0, .int .i64 0, .int .i64 0, .int .i64 0, .int .i64 0, .int .i64 0, .int .i64 0, .int .i64 0, .int .i64 0, .int .i64 0, .int .i64 0, .int .i64 0, .int .i64 0, .int .i64 0, .int .i64 0, .int .i64 0, .int .i64 0, .int .i64 0, .int .i64 0, .int .i64 0, .int .i64 0, .int .i64 0, .int .i64 0, .int .i64 0, .int .i64 0, .int .i64 0, .int .i64 0, .int .i64 0, .int .i64 0, .int .i64 0, .int .i64 0, .int .i64 0, .int .i64 0, .int .i64 0, .int .i64 0, .int .i64 0, .int .i64 0, .int .i64 0, .int .i64 0, .int .i64 0, .int .i64 0, .int .i64 0, .int .i64 0, .int .i64 0, .int .i64 0, .int .i64 0, .int .i64 0, .int .i64 0]) := by unfold zrB; kernel_rfl
theorem ar148 : arB Tryz.prog 148 64 3 1 = true := by kernel_rfl
theorem sz165 : szB Tryz.prog 165 true 6 = true := by kernel_rfl
theorem zr165 : zrB Tryz.prog 165 (.agg #[.int .i64 0, .int .i64 0, .int .i64 0, .int .i64 0, .int .i64 0, .int .i64 0]) := by unfold zrB; kernel_rfl
theorem fld165_0 : fldB Tryz.prog 165 0 0 = true := by kernel_rfl
theorem fld165_1 : fldB Tryz.prog 165 1 1 = true := by kernel_rfl
theorem fld165_2 : fldB Tryz.prog 165 2 2 = true := by kernel_rfl
theorem fld165_3 : fldB Tryz.prog 165 3 3 = true := by kernel_rfl
theorem fld165_4 : fldB Tryz.prog 165 4 4 = true := by kernel_rfl
theorem fld165_5 : fldB Tryz.prog 165 5 5 = true := by kernel_rfl
theorem pl165 : plB Tryz.prog 165 [(0, 1), (1, 1), (2, 1), (3, 1), (4, 1), (5, 1)] = true := by kernel_rfl
theorem sz167 : szB Tryz.prog 167 true 6 = true := by kernel_rfl
theorem zr167 : zrB Tryz.prog 167 (.agg #[.int .i64 0, .int .i64 0, .int .i64 0, .int .i64 0, .int .i64 0, .int .i64 0]) := by unfold zrB; kernel_rfl
theorem fld167_0 : fldB Tryz.prog 167 0 0 = true := by kernel_rfl
theorem pl167 : plB Tryz.prog 167 [(0, 6)] = true := by kernel_rfl
theorem int201 : intB Tryz.prog 201 .u64 = true := by kernel_rfl
theorem sz202 : szB Tryz.prog 202 false 1 = true := by kernel_rfl
theorem int202 : intB Tryz.prog 202 .u64 = true := by kernel_rfl
theorem sz204 : szB Tryz.prog 204 true 2 = true := by kernel_rfl
theorem zr204 : zrB Tryz.prog 204 (.agg #[.int .u64 0, .int .u64 0]) := by unfold zrB; kernel_rfl
theorem fld204_0 : fldB Tryz.prog 204 0 0 = true := by kernel_rfl
theorem fld204_1 : fldB Tryz.prog 204 1 1 = true := by kernel_rfl
theorem pl204 : plB Tryz.prog 204 [(0, 1), (1, 1)] = true := by kernel_rfl
theorem eqk204 : EqK Tryz.prog .u64 204 2 := by
  intro xs ys hx hy w
  match xs, ys, hx, hy with
  | [a0, a1], [b0, b1], _, _ =>
    refine ⟨fun x y => run_eqGuard_agg w .eql 204 x y _ _ (by kernel_rfl), fun x y => run_eqGuard_agg w .neq 204 x y _ _ (by kernel_rfl), ?_⟩
    have hf : (Tryz.prog.fieldsOf 204).toList = [⟨ "high", 202, 0, false, "", "couplant/ray", 0⟩, ⟨ "low", 202, 1, false, "", "couplant/ray", 8⟩] := by kernel_rfl
    rw [show (10000 : Nat) = 9998 + 1 + 1 from rfl, run_equalIn_struct w (9998 + 1) 204 _ _ (by kernel_rfl) (by kernel_rfl), hf]
    have u202 := Tryz.underlying202; 
    simp [Op.eqFields, part, isAgg, run_underlying u202, kW, run_equalIn_int, u202, Result.andThen]
    (repeat' split) <;> simp_all
end Go.Proofs.YtblbnagdhcpnoaaGreat.Am
