/- Closed facts of the program's types and functions. Conditions: none. -/
import Derived.Test.YtepaabbfindaeaaGreatDoorProg
import Derived.Test.YtepaabbfindaeaaGreatDoorAmD
import Derived.ChangeKeysEq
set_option linter.unusedVariables false
set_option linter.unusedSimpArgs false
namespace Go.Proofs.YtepaabbfindaeaaGreatDoor.Am
open Go
theorem mixed : Tryz.prog.follows .mixedOrders = true := by kernel_rfl
theorem en4 : enB Tryz.prog 4 = true := by kernel_rfl
theorem en5 : enB Tryz.prog 5 = true := by kernel_rfl
theorem en6 : enB Tryz.prog 6 = true := by kernel_rfl
theorem en7 : enB Tryz.prog 7 = true := by kernel_rfl
theorem en8 : enB Tryz.prog 8 = true := by kernel_rfl
theorem en9 : enB Tryz.prog 9 = true := by kernel_rfl
theorem en10 : enB Tryz.prog 10 = true := by kernel_rfl
theorem en11 : enB Tryz.prog 11 = true := by kernel_rfl
theorem en12 : enB Tryz.prog 12 = true := by kernel_rfl
theorem en13 : enB Tryz.prog 13 = true := by kernel_rfl
theorem en14 : enB Tryz.prog 14 = true := by kernel_rfl
theorem en15 : enB Tryz.prog 15 = true := by kernel_rfl
theorem en16 : enB Tryz.prog 16 = true := by kernel_rfl
theorem en17 : enB Tryz.prog 17 = true := by kernel_rfl
theorem en18 : enB Tryz.prog 18 = true := by kernel_rfl
theorem en19 : enB Tryz.prog 19 = true := by kernel_rfl
theorem en20 : enB Tryz.prog 20 = true := by kernel_rfl
theorem en21 : enB Tryz.prog 21 = true := by kernel_rfl
theorem en22 : enB Tryz.prog 22 = true := by kernel_rfl
theorem en23 : enB Tryz.prog 23 = true := by kernel_rfl
theorem en24 : enB Tryz.prog 24 = true := by kernel_rfl
theorem en25 : enB Tryz.prog 25 = true := by kernel_rfl
theorem en26 : enB Tryz.prog 26 = true := by kernel_rfl
theorem en27 : enB Tryz.prog 27 = true := by kernel_rfl
theorem en28 : enB Tryz.prog 28 = true := by kernel_rfl
theorem en31 : enB Tryz.prog 31 = true := by kernel_rfl
theorem en32 : enB Tryz.prog 32 = true := by kernel_rfl
theorem en33 : enB Tryz.prog 33 = true := by kernel_rfl
theorem en34 : enB Tryz.prog 34 = true := by kernel_rfl
theorem en35 : enB Tryz.prog 35 = true := by kernel_rfl
theorem en42 : enB Tryz.prog 42 = true := by kernel_rfl
theorem en43 : enB Tryz.prog 43 = true := by kernel_rfl
theorem en44 : enB Tryz.prog 44 = true := by kernel_rfl
theorem en45 : enB Tryz.prog 45 = true := by kernel_rfl
theorem en46 : enB Tryz.prog 46 = true := by kernel_rfl
theorem en47 : enB Tryz.prog 47 = true := by kernel_rfl
theorem en48 : enB Tryz.prog 48 = true := by kernel_rfl
theorem en52 : enB Tryz.prog 52 = true := by kernel_rfl
theorem en53 : enB Tryz.prog 53 = true := by kernel_rfl
theorem en54 : enB Tryz.prog 54 = true := by kernel_rfl
theorem en55 : enB Tryz.prog 55 = true := by kernel_rfl
theorem en56 : enB Tryz.prog 56 = true := by kernel_rfl
theorem en57 : enB Tryz.prog 57 = true := by kernel_rfl
theorem en70 : enB Tryz.prog 70 = true := by kernel_rfl
theorem en71 : enB Tryz.prog 71 = true := by kernel_rfl
theorem en72 : enB Tryz.prog 72 = true := by kernel_rfl
theorem en73 : enB Tryz.prog 73 = true := by kernel_rfl
theorem en85 : enB Tryz.prog 85 = true := by kernel_rfl
theorem en86 : enB Tryz.prog 86 = true := by kernel_rfl
theorem sz3 : szB Tryz.prog 3 false 1 = true := by kernel_rfl
theorem zr3 : zrB Tryz.prog 3 (.int .i64 0) := by unfold zrB; kernel_rfl
theorem int3 : intB Tryz.prog 3 .i64 = true := by kernel_rfl
theorem sz4 : szB Tryz.prog 4 false 1 = true := by kernel_rfl
theorem sz5 : szB Tryz.prog 5 false 1 = true := by kernel_rfl
theorem zr5 : zrB Tryz.prog 5 (.int .u8 0) := by unfold zrB; kernel_rfl
theorem int5 : intB Tryz.prog 5 .u8 = true := by kernel_rfl
theorem sz9 : szB Tryz.prog 9 false 1 = true := by kernel_rfl
theorem by9 : byB Tryz.prog 9 16 = true := by kernel_rfl
theorem zr9 : zrB Tryz.prog 9 (.string ⟨#[]⟩) := by unfold zrB; kernel_rfl
theorem str9 : isStr Tryz.prog 9 = true := by kernel_rfl
theorem sz23 : szB Tryz.prog 23 true 3 = true := by kernel_rfl
theorem zr23 : zrB Tryz.prog 23 (.agg #[.int .i64 0, .int .i64 0, .int .i64 0]) := by unfold zrB; kernel_rfl
theorem fld23_0 : fldB Tryz.prog 23 0 0 = true := by kernel_rfl
theorem fld23_1 : fldB Tryz.prog 23 1 1 = true := by kernel_rfl
theorem fld23_2 : fldB Tryz.prog 23 2 2 = true := by kernel_rfl
theorem pl23 : plB Tryz.prog 23 [(0, 1), (1, 1), (2, 1)] = true := by kernel_rfl
theorem eqi23 : EqI Tryz.prog 23 3 := by
  intro xs ys hx hy w
  match xs, ys, hx, hy with
  | [a0, a1, a2], [b0, b1, b2], _, _ =>
    refine ⟨fun x y => run_eqGuard_agg w .eql 23 x y _ _ (by kernel_rfl), fun x y => run_eqGuard_agg w .neq 23 x y _ _ (by kernel_rfl), ?_⟩
    have hf : (Tryz.prog.fieldsOf 23).toList = [⟨ "Minute", 3, 0, false, "", "", 0⟩, ⟨ "Step", 3, 1, false, "", "", 8⟩, ⟨ "Warmth", 3, 2, false, "", "", 16⟩] := by kernel_rfl
    rw [show (10000 : Nat) = 9998 + 1 + 1 from rfl, run_equalIn_struct w (9998 + 1) 23 _ _ (by kernel_rfl) (by kernel_rfl), hf]
    have u3 := Tryz.underlying3; 
    simp [Op.eqFields, part, isAgg, run_underlying u3, iW, run_equalIn_int, u3, Result.andThen]
    (repeat' split) <;> simp_all
theorem sz26 : szB Tryz.prog 26 false 1 = true := by kernel_rfl
theorem zr26 : zrB Tryz.prog 26 (.int .i64 0) := by unfold zrB; kernel_rfl
theorem sz34 : szB Tryz.prog 34 true 2 = true := by kernel_rfl
theorem zr34 : zrB Tryz.prog 34 (.agg #[.int .i64 0, .int .i64 0]) := by unfold zrB; kernel_rfl
theorem pl34 : plB Tryz.prog 34 [(0, 1), (1, 1)] = true := by kernel_rfl
theorem eqi34 : EqI Tryz.prog 34 2 := by
  intro xs ys hx hy w
  match xs, ys, hx, hy with
  | [a0, a1], [b0, b1], _, _ =>
    refine ⟨fun x y => run_eqGuard_agg w .eql 34 x y _ _ (by kernel_rfl), fun x y => run_eqGuard_agg w .neq 34 x y _ _ (by kernel_rfl), ?_⟩
    have hf : (Tryz.prog.fieldsOf 34).toList = [⟨ "Lo", 3, 0, false, "", "", 0⟩, ⟨ "Hi", 3, 1, false, "", "", 8⟩] := by kernel_rfl
    rw [show (10000 : Nat) = 9998 + 1 + 1 from rfl, run_equalIn_struct w (9998 + 1) 34 _ _ (by kernel_rfl) (by kernel_rfl), hf]
    have u3 := Tryz.underlying3; 
    simp [Op.eqFields, part, isAgg, run_underlying u3, iW, run_equalIn_int, u3, Result.andThen]
    (repeat' split) <;> simp_all
theorem sz38 : szB Tryz.prog 38 true 2 = true := by kernel_rfl
theorem zr38 : zrB Tryz.prog 38 (.agg #[.int .i64 0, .int .i64 0]) := by unfold zrB; kernel_rfl
theorem fld38_0 : fldB Tryz.prog 38 0 0 = true := by kernel_rfl
theorem fld38_1 : fldB Tryz.prog 38 1 1 = true := by kernel_rfl
theorem pl38 : plB Tryz.prog 38 [(0, 1), (1, 1)] = true := by kernel_rfl
theorem eqi38 : EqI Tryz.prog 38 2 := by
  intro xs ys hx hy w
  match xs, ys, hx, hy with
  | [a0, a1], [b0, b1], _, _ =>
    refine ⟨fun x y => run_eqGuard_agg w .eql 38 x y _ _ (by kernel_rfl), fun x y => run_eqGuard_agg w .neq 38 x y _ _ (by kernel_rfl), ?_⟩
    have hf : (Tryz.prog.fieldsOf 38).toList = [⟨ "Depth", 3, 0, false, "", "", 0⟩, ⟨ "Echo", 3, 1, false, "", "", 8⟩] := by kernel_rfl
    rw [show (10000 : Nat) = 9998 + 1 + 1 from rfl, run_equalIn_struct w (9998 + 1) 38 _ _ (by kernel_rfl) (by kernel_rfl), hf]
    have u3 := Tryz.underlying3; 
    simp [Op.eqFields, part, isAgg, run_underlying u3, iW, run_equalIn_int, u3, Result.andThen]
    (repeat' split) <;> simp_all
theorem sl39 : slB Tryz.prog 39 38 2 = true := by kernel_rfl
theorem isl39 : isSl Tryz.prog 39 = true := by kernel_rfl
theorem zr42 : zrB Tryz.prog 42 (.agg #[.int .i64 0, .int .i64 0, .int .i64 0]) := by unfold zrB; kernel_rfl
theorem pl42 : plB Tryz.prog 42 [(0, 1), (1, 2)] = true := by kernel_rfl
theorem sl43 : slB Tryz.prog 43 42 3 = true := by kernel_rfl
theorem sz46 : szB Tryz.prog 46 false 1 = true := by kernel_rfl
theorem sl46 : slB Tryz.prog 46 87 4 = true := by kernel_rfl
theorem isl46 : isSl Tryz.prog 46 = true := by kernel_rfl
theorem sl48 : slB Tryz.prog 48 23 3 = true := by kernel_rfl
theorem isl48 : isSl Tryz.prog 48 = true := by kernel_rfl
theorem sz50 : szB Tryz.prog 50 false 1 = true := by kernel_rfl
theorem sl50 : slB Tryz.prog 50 3 1 = true := by kernel_rfl
theorem isl50 : isSl Tryz.prog 50 = true := by kernel_rfl
theorem sz55 : szB Tryz.prog 55 false 1 = true := by kernel_rfl
theorem sz56 : szB Tryz.prog 56 true 3 = true := by kernel_rfl
theorem zr56 : zrB Tryz.prog 56 (.agg #[.pointer none, .pointer none, .pointer none]) := by unfold zrB; kernel_rfl
theorem ar56 : arB Tryz.prog 56 3 55 1 = true := by kernel_rfl
theorem sl57 : slB Tryz.prog 57 9 1 = true := by kernel_rfl
theorem isl57 : isSl Tryz.prog 57 = true := by kernel_rfl
theorem zr65 : zrB Tryz.prog 65 (.agg #[.int .i64 0, .int .i64 0, .int .i64 0]) := by unfold zrB; kernel_rfl
theorem ar65 : arB Tryz.prog 65 3 3 1 = true := by kernel_rfl
theorem sz69 : szB Tryz.prog 69 true 2 = true := by kernel_rfl
theorem zr69 : zrB Tryz.prog 69 (.agg #[.int .i64 0, .int .i64 0]) := by unfold zrB; kernel_rfl
theorem fld69_0 : fldB Tryz.prog 69 0 0 = true := by kernel_rfl
theorem fld69_1 : fldB Tryz.prog 69 1 1 = true := by kernel_rfl
theorem pl69 : plB Tryz.prog 69 [(0, 1), (1, 1)] = true := by kernel_rfl
theorem sz87 : szB Tryz.prog 87 true 4 = true := by kernel_rfl
theorem zr87 : zrB Tryz.prog 87 (.agg #[.string ⟨#[]⟩, .int .i64 0, .int .i64 0, .slice none 0 0]) := by unfold zrB; kernel_rfl
theorem fld87_0 : fldB Tryz.prog 87 0 0 = true := by kernel_rfl
theorem fld87_1 : fldB Tryz.prog 87 1 1 = true := by kernel_rfl
theorem fld87_2 : fldB Tryz.prog 87 2 2 = true := by kernel_rfl
theorem fld87_3 : fldB Tryz.prog 87 3 3 = true := by kernel_rfl
theorem pl87 : plB Tryz.prog 87 [(0, 1), (1, 1), (2, 1), (3, 1)] = true := by kernel_rfl
theorem sl93 : slB Tryz.prog 93 5 1 = true := by kernel_rfl
theorem isl93 : isSl Tryz.prog 93 = true := by kernel_rfl
theorem sl97 : slB Tryz.prog 97 26 1 = true := by kernel_rfl
theorem isl97 : isSl Tryz.prog 97 = true := by kernel_rfl
theorem sz105 : szB Tryz.prog 105 false 1 = true := by kernel_rfl
theorem sl105 : slB Tryz.prog 105 108 4 = true := by kernel_rfl
theorem isl105 : isSl Tryz.prog 105 = true := by kernel_rfl
theorem sz108 : szB Tryz.prog 108 true 4 = true := by kernel_rfl
theorem by108 : byB Tryz.prog 108 24 = true := by kernel_rfl
theorem zr108 : zrB Tryz.prog 108 (.agg #[.bool false, .bool false, .int .i64 0, .int .i64 0]) := by unfold zrB; kernel_rfl
theorem fld108_0 : fldB Tryz.prog 108 0 0 = true := by kernel_rfl
theorem fld108_1 : fldB Tryz.prog 108 1 1 = true := by kernel_rfl
theorem fld108_2 : fldB Tryz.prog 108 2 2 = true := by kernel_rfl
theorem fld108_3 : fldB Tryz.prog 108 3 3 = true := by kernel_rfl
theorem pl108 : plB Tryz.prog 108 [(0, 1), (1, 1), (2, 1), (3, 1)] = true := by kernel_rfl
theorem zr110 : zrB Tryz.prog 110 (.agg #[.slice none 0 0, .slice none 0 0]) := by unfold zrB; kernel_rfl
theorem fld110_0 : fldB Tryz.prog 110 0 0 = true := by kernel_rfl
theorem fld110_1 : fldB Tryz.prog 110 1 1 = true := by kernel_rfl
theorem pl110 : plB Tryz.prog 110 [(0, 1), (1, 1)] = true := by kernel_rfl
end Go.Proofs.YtepaabbfindaeaaGreatDoor.Am
