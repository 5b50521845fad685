/- Closed facts of the program's types and functions. Conditions: none. -/
import Derived.Test.YtgeieocphgnipaaGreatDoorRows
import Derived.Test.YtgeieocphgnipaaGreatDoorAmD
import Derived.ChangeKeysEq
set_option linter.unusedVariables false
set_option linter.unusedSimpArgs false
namespace Go.Proofs.YtgeieocphgnipaaGreatDoor.Am
open Go
theorem mixed : Tryz.prog.follows .mixedOrders = true := by kernel_rfl
theorem en17 : enB Tryz.prog 17 = true := by kernel_rfl
theorem en18 : enB Tryz.prog 18 = true := by kernel_rfl
theorem en19 : enB Tryz.prog 19 = true := by kernel_rfl
theorem en24 : enB Tryz.prog 24 = true := by kernel_rfl
theorem en26 : enB Tryz.prog 26 = true := by kernel_rfl
theorem en27 : enB Tryz.prog 27 = true := by kernel_rfl
theorem en34 : enB Tryz.prog 34 = true := by kernel_rfl
theorem en35 : enB Tryz.prog 35 = true := by kernel_rfl
theorem en36 : enB Tryz.prog 36 = true := by kernel_rfl
theorem en38 : enB Tryz.prog 38 = true := by kernel_rfl
theorem en41 : enB Tryz.prog 41 = true := by kernel_rfl
theorem en53 : enB Tryz.prog 53 = true := by kernel_rfl
theorem en59 : enB Tryz.prog 59 = true := by kernel_rfl
theorem en61 : enB Tryz.prog 61 = true := by kernel_rfl
theorem en65 : enB Tryz.prog 65 = true := by kernel_rfl
theorem en71 : enB Tryz.prog 71 = true := by kernel_rfl
theorem en73 : enB Tryz.prog 73 = true := by kernel_rfl
theorem en75 : enB Tryz.prog 75 = true := by kernel_rfl
theorem en76 : enB Tryz.prog 76 = true := by kernel_rfl
theorem en77 : enB Tryz.prog 77 = true := by kernel_rfl
theorem en78 : enB Tryz.prog 78 = true := by kernel_rfl
theorem en79 : enB Tryz.prog 79 = true := by kernel_rfl
theorem en80 : enB Tryz.prog 80 = true := by kernel_rfl
theorem en81 : enB Tryz.prog 81 = true := by kernel_rfl
theorem en82 : enB Tryz.prog 82 = true := by kernel_rfl
theorem en87 : enB Tryz.prog 87 = true := by kernel_rfl
theorem en88 : enB Tryz.prog 88 = true := by kernel_rfl
theorem en89 : enB Tryz.prog 89 = true := by kernel_rfl
theorem en91 : enB Tryz.prog 91 = true := by kernel_rfl
theorem en92 : enB Tryz.prog 92 = true := by kernel_rfl
theorem en94 : enB Tryz.prog 94 = true := by kernel_rfl
theorem en95 : enB Tryz.prog 95 = true := by kernel_rfl
theorem en96 : enB Tryz.prog 96 = true := by kernel_rfl
theorem en97 : enB Tryz.prog 97 = true := by kernel_rfl
theorem en98 : enB Tryz.prog 98 = true := by kernel_rfl
theorem en100 : enB Tryz.prog 100 = true := by kernel_rfl
theorem en101 : enB Tryz.prog 101 = true := by kernel_rfl
theorem en102 : enB Tryz.prog 102 = true := by kernel_rfl
theorem en106 : enB Tryz.prog 106 = true := by kernel_rfl
theorem en107 : enB Tryz.prog 107 = true := by kernel_rfl
theorem en109 : enB Tryz.prog 109 = true := by kernel_rfl
theorem en111 : enB Tryz.prog 111 = true := by kernel_rfl
theorem en112 : enB Tryz.prog 112 = true := by kernel_rfl
theorem en113 : enB Tryz.prog 113 = true := by kernel_rfl
theorem en120 : enB Tryz.prog 120 = true := by kernel_rfl
theorem en123 : enB Tryz.prog 123 = true := by kernel_rfl
theorem en124 : enB Tryz.prog 124 = true := by kernel_rfl
theorem en125 : enB Tryz.prog 125 = true := by kernel_rfl
theorem en126 : enB Tryz.prog 126 = true := by kernel_rfl
theorem en127 : enB Tryz.prog 127 = true := by kernel_rfl
theorem en128 : enB Tryz.prog 128 = true := by kernel_rfl
theorem en129 : enB Tryz.prog 129 = true := by kernel_rfl
theorem en130 : enB Tryz.prog 130 = true := by kernel_rfl
theorem en131 : enB Tryz.prog 131 = true := by kernel_rfl
theorem en134 : enB Tryz.prog 134 = true := by kernel_rfl
theorem en135 : enB Tryz.prog 135 = true := by kernel_rfl
theorem en136 : enB Tryz.prog 136 = true := by kernel_rfl
theorem en137 : enB Tryz.prog 137 = true := by kernel_rfl
theorem en138 : enB Tryz.prog 138 = true := by kernel_rfl
theorem en141 : enB Tryz.prog 141 = true := by kernel_rfl
theorem en142 : enB Tryz.prog 142 = true := by kernel_rfl
theorem en143 : enB Tryz.prog 143 = true := by kernel_rfl
theorem en144 : enB Tryz.prog 144 = true := by kernel_rfl
theorem en145 : enB Tryz.prog 145 = true := by kernel_rfl
theorem en157 : enB Tryz.prog 157 = true := by kernel_rfl
theorem en162 : enB Tryz.prog 162 = true := by kernel_rfl
theorem en163 : enB Tryz.prog 163 = true := by kernel_rfl
theorem en164 : enB Tryz.prog 164 = true := by kernel_rfl
theorem en165 : enB Tryz.prog 165 = true := by kernel_rfl
theorem en166 : enB Tryz.prog 166 = true := by kernel_rfl
theorem en167 : enB Tryz.prog 167 = true := by kernel_rfl
theorem en168 : enB Tryz.prog 168 = true := by kernel_rfl
theorem en169 : enB Tryz.prog 169 = true := by kernel_rfl
theorem en170 : enB Tryz.prog 170 = true := by kernel_rfl
theorem en183 : enB Tryz.prog 183 = true := by kernel_rfl
theorem en184 : enB Tryz.prog 184 = true := by kernel_rfl
theorem en185 : enB Tryz.prog 185 = true := by kernel_rfl
theorem en186 : enB Tryz.prog 186 = true := by kernel_rfl
theorem en206 : enB Tryz.prog 206 = true := by kernel_rfl
theorem en207 : enB Tryz.prog 207 = true := by kernel_rfl
theorem sz3 : szB Tryz.prog 3 false 1 = true := by kernel_rfl
theorem by3 : byB Tryz.prog 3 8 = true := by kernel_rfl
theorem zr3 : zrB Tryz.prog 3 (.int .i64 0) := by unfold zrB; kernel_rfl
theorem int3 : intB Tryz.prog 3 .i64 = true := by kernel_rfl
theorem zr5 : zrB Tryz.prog 5 (.int .u8 0) := by unfold zrB; kernel_rfl
theorem int5 : intB Tryz.prog 5 .u8 = true := by kernel_rfl
theorem sz9 : szB Tryz.prog 9 false 1 = true := by kernel_rfl
theorem by9 : byB Tryz.prog 9 16 = true := by kernel_rfl
theorem zr9 : zrB Tryz.prog 9 (.string ⟨#[]⟩) := by unfold zrB; kernel_rfl
theorem str9 : isStr Tryz.prog 9 = true := by kernel_rfl
theorem sz22 : szB Tryz.prog 22 false 1 = true := by kernel_rfl
theorem sl22 : slB Tryz.prog 22 28 2 = true := by kernel_rfl
theorem isl22 : isSl Tryz.prog 22 = true := by kernel_rfl
theorem sz24 : szB Tryz.prog 24 true 4 = true := by kernel_rfl
theorem zr24 : zrB Tryz.prog 24 (.agg #[.int .i64 0, .int .i64 0, .int .i64 0, .int .i64 0]) := by unfold zrB; kernel_rfl
theorem fld24_0 : fldB Tryz.prog 24 0 0 = true := by kernel_rfl
theorem fld24_1 : fldB Tryz.prog 24 1 1 = true := by kernel_rfl
theorem fld24_2 : fldB Tryz.prog 24 2 2 = true := by kernel_rfl
theorem fld24_3 : fldB Tryz.prog 24 3 3 = true := by kernel_rfl
theorem pl24 : plB Tryz.prog 24 [(0, 1), (1, 1), (2, 1), (3, 1)] = true := by kernel_rfl
theorem sz26 : szB Tryz.prog 26 true 6 = true := by kernel_rfl
theorem zr26 : zrB Tryz.prog 26 (.agg #[.slice none 0 0, .int .i64 0, .int .i64 0, .int .i64 0, .int .i64 0, .int .i64 0]) := by unfold zrB; kernel_rfl
theorem fld26_0 : fldB Tryz.prog 26 0 0 = true := by kernel_rfl
theorem fld26_1 : fldB Tryz.prog 26 1 1 = true := by kernel_rfl
theorem fld26_2 : fldB Tryz.prog 26 2 5 = true := by kernel_rfl
theorem pl26 : plB Tryz.prog 26 [(0, 1), (1, 4), (5, 1)] = true := by kernel_rfl
theorem sz28 : szB Tryz.prog 28 true 2 = true := by kernel_rfl
theorem zr28 : zrB Tryz.prog 28 (.agg #[.int .i64 0, .int .i64 0]) := by unfold zrB; kernel_rfl
theorem fld28_0 : fldB Tryz.prog 28 0 0 = true := by kernel_rfl
theorem fld28_1 : fldB Tryz.prog 28 1 1 = true := by kernel_rfl
theorem pl28 : plB Tryz.prog 28 [(0, 1), (1, 1)] = true := by kernel_rfl
theorem sz31 : szB Tryz.prog 31 false 1 = true := by kernel_rfl
theorem zr31 : zrB Tryz.prog 31 (.slice none 0 0) := by unfold zrB; kernel_rfl
theorem sl31 : slB Tryz.prog 31 3 1 = true := by kernel_rfl
theorem isl31 : isSl Tryz.prog 31 = true := by kernel_rfl
theorem sz33 : szB Tryz.prog 33 true 2 = true := by kernel_rfl
theorem zr33 : zrB Tryz.prog 33 (.agg #[.int .i64 0, .slice none 0 0]) := by unfold zrB; kernel_rfl
theorem fld33_0 : fldB Tryz.prog 33 0 0 = true := by kernel_rfl
theorem fld33_1 : fldB Tryz.prog 33 1 1 = true := by kernel_rfl
theorem pl33 : plB Tryz.prog 33 [(0, 1), (1, 1)] = true := by kernel_rfl
theorem sz34 : szB Tryz.prog 34 false 1 = true := by kernel_rfl
theorem zr34 : zrB Tryz.prog 34 (.int .i64 0) := by unfold zrB; kernel_rfl
theorem sl44 : slB Tryz.prog 44 49 2 = true := by kernel_rfl
theorem isl44 : isSl Tryz.prog 44 = true := by kernel_rfl
theorem sz49 : szB Tryz.prog 49 true 2 = true := by kernel_rfl
theorem by49 : byB Tryz.prog 49 16 = true := by kernel_rfl
theorem zr49 : zrB Tryz.prog 49 (.agg #[.int .i64 0, .int .i64 0]) := by unfold zrB; kernel_rfl
theorem fld49_0 : fldB Tryz.prog 49 0 0 = true := by kernel_rfl
theorem fld49_1 : fldB Tryz.prog 49 1 1 = true := by kernel_rfl
theorem pl49 : plB Tryz.prog 49 [(0, 1), (1, 1)] = true := by kernel_rfl
theorem eqi49 : EqI Tryz.prog 49 2 := by
  intro xs ys hx hy w
  match xs, ys, hx, hy with
  | [a0, a1], [b0, b1], _, _ =>
    refine ⟨fun x y => run_eqGuard_agg w .eql 49 x y _ _ (by kernel_rfl), fun x y => run_eqGuard_agg w .neq 49 x y _ _ (by kernel_rfl), ?_⟩
    have hf : (Tryz.prog.fieldsOf 49).toList = [⟨ "Lo", 3, 0, false, "", "", 0⟩, ⟨ "Hi", 3, 1, false, "", "", 8⟩] := by kernel_rfl
    rw [show (10000 : Nat) = 9998 + 1 + 1 from rfl, run_equalIn_struct w (9998 + 1) 49 _ _ (by kernel_rfl) (by kernel_rfl), hf]
    have u3 := Tryz.underlying3; 
    simp [Op.eqFields, part, isAgg, run_underlying u3, iW, run_equalIn_int, u3, Result.andThen]
    (repeat' split) <;> simp_all
theorem sz138 : szB Tryz.prog 138 true 8 = true := by kernel_rfl
theorem zr138 : zrB Tryz.prog 138 (.agg #[.slice none 0 0, .int .i64 0, .int .i64 0, .int .i64 0, .int .i64 0, .int .i64 0, .int .i64 0, .slice none 0 0]) := by unfold zrB; kernel_rfl
theorem fld138_0 : fldB Tryz.prog 138 0 0 = true := by kernel_rfl
theorem fld138_1 : fldB Tryz.prog 138 1 6 = true := by kernel_rfl
theorem pl138 : plB Tryz.prog 138 [(0, 6), (6, 2)] = true := by kernel_rfl
theorem zr150 : zrB Tryz.prog 150 (.agg #[.int .i64 0, .int .i64 0, .int .i64 0, .int .i64 0, .int .i64 0, .int .i64 0]) := by unfold zrB; kernel_rfl
theorem fld150_0 : fldB Tryz.prog 150 0 0 = true := by kernel_rfl
theorem fld150_1 : fldB Tryz.prog 150 1 1 = true := by kernel_rfl
theorem fld150_2 : fldB Tryz.prog 150 2 2 = true := by kernel_rfl
theorem fld150_3 : fldB Tryz.prog 150 3 3 = true := by kernel_rfl
theorem fld150_4 : fldB Tryz.prog 150 4 4 = true := by kernel_rfl
theorem fld150_5 : fldB Tryz.prog 150 5 5 = true := by kernel_rfl
theorem pl150 : plB Tryz.prog 150 [(0, 1), (1, 1), (2, 1), (3, 1), (4, 1), (5, 1)] = true := by kernel_rfl
theorem sz152 : szB Tryz.prog 152 true 6 = true := by kernel_rfl
theorem zr152 : zrB Tryz.prog 152 (.agg #[.int .i64 0, .int .i64 0, .int .i64 0, .int .i64 0, .int .i64 0, .int .i64 0]) := by unfold zrB; kernel_rfl
theorem fld152_0 : fldB Tryz.prog 152 0 0 = true := by kernel_rfl
theorem pl152 : plB Tryz.prog 152 [(0, 6)] = true := by kernel_rfl
theorem sl168 : slB Tryz.prog 168 9 1 = true := by kernel_rfl
theorem isl168 : isSl Tryz.prog 168 = true := by kernel_rfl
theorem sl178 : slB Tryz.prog 178 34 1 = true := by kernel_rfl
theorem isl178 : isSl Tryz.prog 178 = true := by kernel_rfl
theorem sl183 : slB Tryz.prog 183 5 1 = true := by kernel_rfl
theorem int210 : intB Tryz.prog 210 .u64 = true := by kernel_rfl
theorem sz211 : szB Tryz.prog 211 false 1 = true := by kernel_rfl
theorem int211 : intB Tryz.prog 211 .u64 = true := by kernel_rfl
theorem sz213 : szB Tryz.prog 213 true 2 = true := by kernel_rfl
theorem zr213 : zrB Tryz.prog 213 (.agg #[.int .u64 0, .int .u64 0]) := by unfold zrB; kernel_rfl
theorem fld213_0 : fldB Tryz.prog 213 0 0 = true := by kernel_rfl
theorem fld213_1 : fldB Tryz.prog 213 1 1 = true := by kernel_rfl
theorem pl213 : plB Tryz.prog 213 [(0, 1), (1, 1)] = true := by kernel_rfl
theorem eqk213 : EqK Tryz.prog .u64 213 2 := by
  intro xs ys hx hy w
  match xs, ys, hx, hy with
  | [a0, a1], [b0, b1], _, _ =>
    refine ⟨fun x y => run_eqGuard_agg w .eql 213 x y _ _ (by kernel_rfl), fun x y => run_eqGuard_agg w .neq 213 x y _ _ (by kernel_rfl), ?_⟩
    have hf : (Tryz.prog.fieldsOf 213).toList = [⟨ "high", 211, 0, false, "", "couplant/ray", 0⟩, ⟨ "low", 211, 1, false, "", "couplant/ray", 8⟩] := by kernel_rfl
    rw [show (10000 : Nat) = 9998 + 1 + 1 from rfl, run_equalIn_struct w (9998 + 1) 213 _ _ (by kernel_rfl) (by kernel_rfl), hf]
    have u211 := Tryz.underlying211; 
    simp [Op.eqFields, part, isAgg, run_underlying u211, kW, run_equalIn_int, u211, Result.andThen]
    (repeat' split) <;> simp_all
end Go.Proofs.YtgeieocphgnipaaGreatDoor.Am
