/- Closed facts of the program's types and functions. Conditions: none. -/
import Derived.Test.YtgolkffigoabhaaRows
import Derived.Test.YtgolkffigoabhaaAmD
import Derived.ChangeKeysEq
set_option linter.unusedVariables false
set_option linter.unusedSimpArgs false
namespace Go.Proofs.Ytgolkffigoabhaa.Am
open Go
theorem mixed : Try.prog.follows .mixedOrders = true := by kernel_rfl
theorem en2 : enB Try.prog 2 = true := by kernel_rfl
theorem en3 : enB Try.prog 3 = true := by kernel_rfl
theorem en4 : enB Try.prog 4 = true := by kernel_rfl
theorem en5 : enB Try.prog 5 = true := by kernel_rfl
theorem en6 : enB Try.prog 6 = true := by kernel_rfl
theorem en7 : enB Try.prog 7 = true := by kernel_rfl
theorem en8 : enB Try.prog 8 = true := by kernel_rfl
theorem en9 : enB Try.prog 9 = true := by kernel_rfl
theorem en10 : enB Try.prog 10 = true := by kernel_rfl
theorem en11 : enB Try.prog 11 = true := by kernel_rfl
theorem en12 : enB Try.prog 12 = true := by kernel_rfl
theorem en13 : enB Try.prog 13 = true := by kernel_rfl
theorem en14 : enB Try.prog 14 = true := by kernel_rfl
theorem en15 : enB Try.prog 15 = true := by kernel_rfl
theorem en16 : enB Try.prog 16 = true := by kernel_rfl
theorem en17 : enB Try.prog 17 = true := by kernel_rfl
theorem en18 : enB Try.prog 18 = true := by kernel_rfl
theorem en19 : enB Try.prog 19 = true := by kernel_rfl
theorem en20 : enB Try.prog 20 = true := by kernel_rfl
theorem en21 : enB Try.prog 21 = true := by kernel_rfl
theorem en22 : enB Try.prog 22 = true := by kernel_rfl
theorem en23 : enB Try.prog 23 = true := by kernel_rfl
theorem en24 : enB Try.prog 24 = true := by kernel_rfl
theorem en25 : enB Try.prog 25 = true := by kernel_rfl
theorem en26 : enB Try.prog 26 = true := by kernel_rfl
theorem en27 : enB Try.prog 27 = true := by kernel_rfl
theorem en28 : enB Try.prog 28 = true := by kernel_rfl
theorem en29 : enB Try.prog 29 = true := by kernel_rfl
theorem en30 : enB Try.prog 30 = true := by kernel_rfl
theorem en31 : enB Try.prog 31 = true := by kernel_rfl
theorem en32 : enB Try.prog 32 = true := by kernel_rfl
theorem en33 : enB Try.prog 33 = true := by kernel_rfl
theorem en34 : enB Try.prog 34 = true := by kernel_rfl
theorem en35 : enB Try.prog 35 = true := by kernel_rfl
theorem en36 : enB Try.prog 36 = true := by kernel_rfl
theorem en37 : enB Try.prog 37 = true := by kernel_rfl
theorem en38 : enB Try.prog 38 = true := by kernel_rfl
theorem en39 : enB Try.prog 39 = true := by kernel_rfl
theorem en40 : enB Try.prog 40 = true := by kernel_rfl
theorem en41 : enB Try.prog 41 = true := by kernel_rfl
theorem en42 : enB Try.prog 42 = true := by kernel_rfl
theorem en43 : enB Try.prog 43 = true := by kernel_rfl
theorem en44 : enB Try.prog 44 = true := by kernel_rfl
theorem en45 : enB Try.prog 45 = true := by kernel_rfl
theorem en46 : enB Try.prog 46 = true := by kernel_rfl
theorem en47 : enB Try.prog 47 = true := by kernel_rfl
theorem en48 : enB Try.prog 48 = true := by kernel_rfl
theorem en49 : enB Try.prog 49 = true := by kernel_rfl
theorem en50 : enB Try.prog 50 = true := by kernel_rfl
theorem en51 : enB Try.prog 51 = true := by kernel_rfl
theorem en52 : enB Try.prog 52 = true := by kernel_rfl
theorem en53 : enB Try.prog 53 = true := by kernel_rfl
theorem en54 : enB Try.prog 54 = true := by kernel_rfl
theorem en55 : enB Try.prog 55 = true := by kernel_rfl
theorem en56 : enB Try.prog 56 = true := by kernel_rfl
theorem en57 : enB Try.prog 57 = true := by kernel_rfl
theorem en58 : enB Try.prog 58 = true := by kernel_rfl
theorem en59 : enB Try.prog 59 = true := by kernel_rfl
theorem en60 : enB Try.prog 60 = true := by kernel_rfl
theorem en61 : enB Try.prog 61 = true := by kernel_rfl
theorem en62 : enB Try.prog 62 = true := by kernel_rfl
theorem en63 : enB Try.prog 63 = true := by kernel_rfl
theorem en64 : enB Try.prog 64 = true := by kernel_rfl
theorem en65 : enB Try.prog 65 = true := by kernel_rfl
theorem en66 : enB Try.prog 66 = true := by kernel_rfl
theorem en67 : enB Try.prog 67 = true := by kernel_rfl
theorem en68 : enB Try.prog 68 = true := by kernel_rfl
theorem en69 : enB Try.prog 69 = true := by kernel_rfl
theorem en70 : enB Try.prog 70 = true := by kernel_rfl
theorem en71 : enB Try.prog 71 = true := by kernel_rfl
theorem sz2 : szB Try.prog 2 false 1 = true := by kernel_rfl
theorem by2 : byB Try.prog 2 8 = true := by kernel_rfl
theorem zr2 : zrB Try.prog 2 (.int .i64 0) := by unfold zrB; kernel_rfl
theorem int2 : intB Try.prog 2 .i64 = true := by kernel_rfl
theorem sz3 : szB Try.prog 3 false 1 = true := by kernel_rfl
theorem by3 : byB Try.prog 3 8 = true := by kernel_rfl
theorem zr3 : zrB Try.prog 3 (.int .i64 0) := by unfold zrB; kernel_rfl
theorem int3 : intB Try.prog 3 .i64 = true := by kernel_rfl
theorem sz4 : szB Try.prog 4 false 1 = true := by kernel_rfl
theorem by4 : byB Try.prog 4 1 = true := by kernel_rfl
theorem zr4 : zrB Try.prog 4 (.bool false) := by unfold zrB; kernel_rfl
theorem sz5 : szB Try.prog 5 false 1 = true := by kernel_rfl
theorem by5 : byB Try.prog 5 1 = true := by kernel_rfl
theorem zr5 : zrB Try.prog 5 (.int .u8 0) := by unfold zrB; kernel_rfl
theorem int5 : intB Try.prog 5 .u8 = true := by kernel_rfl
theorem sz6 : szB Try.prog 6 false 1 = true := by kernel_rfl
theorem by6 : byB Try.prog 6 1 = true := by kernel_rfl
theorem zr6 : zrB Try.prog 6 (.int .u8 0) := by unfold zrB; kernel_rfl
theorem int6 : intB Try.prog 6 .u8 = true := by kernel_rfl
theorem sz7 : szB Try.prog 7 true 4 = true := by kernel_rfl
theorem by7 : byB Try.prog 7 24 = true := by kernel_rfl
theorem zr7 : zrB Try.prog 7 (.agg #[.int .i64 0, .int .i64 0, .bool false, .int .u8 0]) := by unfold zrB; kernel_rfl
theorem fld7_0 : fldB Try.prog 7 0 0 = true := by kernel_rfl
theorem fd7_0 : (match Try.prog.underlying 7 with | some (.struct fs) => (fs[0]?).map (fun fd => (fd.offset, fd.type)) | _ => none) = some (0, 2) := by kernel_rfl
theorem fld7_1 : fldB Try.prog 7 1 1 = true := by kernel_rfl
theorem fd7_1 : (match Try.prog.underlying 7 with | some (.struct fs) => (fs[1]?).map (fun fd => (fd.offset, fd.type)) | _ => none) = some (1, 3) := by kernel_rfl
theorem fld7_2 : fldB Try.prog 7 2 2 = true := by kernel_rfl
theorem fd7_2 : (match Try.prog.underlying 7 with | some (.struct fs) => (fs[2]?).map (fun fd => (fd.offset, fd.type)) | _ => none) = some (2, 4) := by kernel_rfl
theorem fld7_3 : fldB Try.prog 7 3 3 = true := by kernel_rfl
theorem fd7_3 : (match Try.prog.underlying 7 with | some (.struct fs) => (fs[3]?).map (fun fd => (fd.offset, fd.type)) | _ => none) = some (3, 6) := by kernel_rfl
theorem pl7 : plB Try.prog 7 [(0, 1), (1, 1), (2, 1), (3, 1)] = true := by kernel_rfl
theorem sz8 : szB Try.prog 8 true 4 = true := by kernel_rfl
theorem by8 : byB Try.prog 8 24 = true := by kernel_rfl
theorem zr8 : zrB Try.prog 8 (.agg #[.int .i64 0, .int .i64 0, .bool false, .int .u8 0]) := by unfold zrB; kernel_rfl
theorem fld8_0 : fldB Try.prog 8 0 0 = true := by kernel_rfl
theorem fd8_0 : (match Try.prog.underlying 8 with | some (.struct fs) => (fs[0]?).map (fun fd => (fd.offset, fd.type)) | _ => none) = some (0, 2) := by kernel_rfl
theorem fld8_1 : fldB Try.prog 8 1 1 = true := by kernel_rfl
theorem fd8_1 : (match Try.prog.underlying 8 with | some (.struct fs) => (fs[1]?).map (fun fd => (fd.offset, fd.type)) | _ => none) = some (1, 3) := by kernel_rfl
theorem fld8_2 : fldB Try.prog 8 2 2 = true := by kernel_rfl
theorem fd8_2 : (match Try.prog.underlying 8 with | some (.struct fs) => (fs[2]?).map (fun fd => (fd.offset, fd.type)) | _ => none) = some (2, 4) := by kernel_rfl
theorem fld8_3 : fldB Try.prog 8 3 3 = true := by kernel_rfl
theorem fd8_3 : (match Try.prog.underlying 8 with | some (.struct fs) => (fs[3]?).map (fun fd => (fd.offset, fd.type)) | _ => none) = some (3, 6) := by kernel_rfl
theorem pl8 : plB Try.prog 8 [(0, 1), (1, 1), (2, 1), (3, 1)] = true := by kernel_rfl
theorem sz9 : szB Try.prog 9 false 1 = true := by kernel_rfl
theorem by9 : byB Try.prog 9 16 = true := by kernel_rfl
theorem zr9 : zrB Try.prog 9 (.string ⟨#[]⟩) := by unfold zrB; kernel_rfl
theorem str9 : isStr Try.prog 9 = true := by kernel_rfl
theorem sz10 : szB Try.prog 10 false 1 = true := by kernel_rfl
theorem by10 : byB Try.prog 10 16 = true := by kernel_rfl
theorem zr10 : zrB Try.prog 10 (.string ⟨#[]⟩) := by unfold zrB; kernel_rfl
theorem str10 : isStr Try.prog 10 = true := by kernel_rfl
theorem sz11 : szB Try.prog 11 false 1 = true := by kernel_rfl
theorem by11 : byB Try.prog 11 16 = true := by kernel_rfl
theorem zr11 : zrB Try.prog 11 (.string ⟨#[]⟩) := by unfold zrB; kernel_rfl
theorem str11 : isStr Try.prog 11 = true := by kernel_rfl
theorem sz12 : szB Try.prog 12 false 1 = true := by kernel_rfl
theorem by12 : byB Try.prog 12 8 = true := by kernel_rfl
theorem zr12 : zrB Try.prog 12 (.int .u64 0) := by unfold zrB; kernel_rfl
theorem int12 : intB Try.prog 12 .u64 = true := by kernel_rfl
theorem sz13 : szB Try.prog 13 true 2 = true := by kernel_rfl
theorem by13 : byB Try.prog 13 24 = true := by kernel_rfl
theorem zr13 : zrB Try.prog 13 (.agg #[.string ⟨#[]⟩, .int .u64 0]) := by unfold zrB; kernel_rfl
theorem fld13_0 : fldB Try.prog 13 0 0 = true := by kernel_rfl
theorem fd13_0 : (match Try.prog.underlying 13 with | some (.struct fs) => (fs[0]?).map (fun fd => (fd.offset, fd.type)) | _ => none) = some (0, 9) := by kernel_rfl
theorem fld13_1 : fldB Try.prog 13 1 1 = true := by kernel_rfl
theorem fd13_1 : (match Try.prog.underlying 13 with | some (.struct fs) => (fs[1]?).map (fun fd => (fd.offset, fd.type)) | _ => none) = some (1, 12) := by kernel_rfl
theorem pl13 : plB Try.prog 13 [(0, 1), (1, 1)] = true := by kernel_rfl
theorem sz14 : szB Try.prog 14 true 2 = true := by kernel_rfl
theorem by14 : byB Try.prog 14 24 = true := by kernel_rfl
theorem zr14 : zrB Try.prog 14 (.agg #[.string ⟨#[]⟩, .int .u64 0]) := by unfold zrB; kernel_rfl
theorem fld14_0 : fldB Try.prog 14 0 0 = true := by kernel_rfl
theorem fd14_0 : (match Try.prog.underlying 14 with | some (.struct fs) => (fs[0]?).map (fun fd => (fd.offset, fd.type)) | _ => none) = some (0, 9) := by kernel_rfl
theorem fld14_1 : fldB Try.prog 14 1 1 = true := by kernel_rfl
theorem fd14_1 : (match Try.prog.underlying 14 with | some (.struct fs) => (fs[1]?).map (fun fd => (fd.offset, fd.type)) | _ => none) = some (1, 12) := by kernel_rfl
theorem pl14 : plB Try.prog 14 [(0, 1), (1, 1)] = true := by kernel_rfl
theorem sz15 : szB Try.prog 15 false 1 = true := by kernel_rfl
theorem by15 : byB Try.prog 15 8 = true := by kernel_rfl
theorem zr15 : zrB Try.prog 15 (.pointer none) := by unfold zrB; kernel_rfl
theorem sz16 : szB Try.prog 16 false 1 = true := by kernel_rfl
theorem by16 : byB Try.prog 16 8 = true := by kernel_rfl
theorem zr16 : zrB Try.prog 16 (.pointer none) := by unfold zrB; kernel_rfl
theorem sz17 : szB Try.prog 17 false 1 = true := by kernel_rfl
theorem by17 : byB Try.prog 17 8 = true := by kernel_rfl
theorem zr17 : zrB Try.prog 17 (.pointer none) := by unfold zrB; kernel_rfl
theorem sz18 : szB Try.prog 18 true 1 = true := by kernel_rfl
theorem by18 : byB Try.prog 18 8 = true := by kernel_rfl
theorem zr18 : zrB Try.prog 18 (.agg #[.pointer none]) := by unfold zrB; kernel_rfl
theorem fld18_0 : fldB Try.prog 18 0 0 = true := by kernel_rfl
theorem fd18_0 : (match Try.prog.underlying 18 with | some (.struct fs) => (fs[0]?).map (fun fd => (fd.offset, fd.type)) | _ => none) = some (0, 17) := by kernel_rfl
theorem pl18 : plB Try.prog 18 [(0, 1)] = true := by kernel_rfl
theorem sz19 : szB Try.prog 19 true 1 = true := by kernel_rfl
theorem by19 : byB Try.prog 19 8 = true := by kernel_rfl
theorem zr19 : zrB Try.prog 19 (.agg #[.pointer none]) := by unfold zrB; kernel_rfl
theorem fld19_0 : fldB Try.prog 19 0 0 = true := by kernel_rfl
theorem fd19_0 : (match Try.prog.underlying 19 with | some (.struct fs) => (fs[0]?).map (fun fd => (fd.offset, fd.type)) | _ => none) = some (0, 17) := by kernel_rfl
theorem pl19 : plB Try.prog 19 [(0, 1)] = true := by kernel_rfl
theorem sz21 : szB Try.prog 21 false 1 = true := by kernel_rfl
theorem by21 : byB Try.prog 21 4 = true := by kernel_rfl
theorem zr21 : zrB Try.prog 21 (.int .i32 0) := by unfold zrB; kernel_rfl
theorem int21 : intB Try.prog 21 .i32 = true := by kernel_rfl
theorem sz22 : szB Try.prog 22 false 1 = true := by kernel_rfl
theorem by22 : byB Try.prog 22 24 = true := by kernel_rfl
theorem zr22 : zrB Try.prog 22 (.slice none 0 0) := by unfold zrB; kernel_rfl
theorem sl22 : slB Try.prog 22 3 1 = true := by kernel_rfl
theorem isl22 : isSl Try.prog 22 = true := by kernel_rfl
theorem sz25 : szB Try.prog 25 false 1 = true := by kernel_rfl
theorem by25 : byB Try.prog 25 24 = true := by kernel_rfl
theorem zr25 : zrB Try.prog 25 (.slice none 0 0) := by unfold zrB; kernel_rfl
theorem sl25 : slB Try.prog 25 34 3 = true := by kernel_rfl
theorem isl25 : isSl Try.prog 25 = true := by kernel_rfl
theorem sz26 : szB Try.prog 26 true 2 = true := by kernel_rfl
theorem by26 : byB Try.prog 26 16 = true := by kernel_rfl
theorem zr26 : zrB Try.prog 26 (.agg #[.int .i64 0, .int .i64 0]) := by unfold zrB; kernel_rfl
theorem fld26_0 : fldB Try.prog 26 0 0 = true := by kernel_rfl
theorem fd26_0 : (match Try.prog.underlying 26 with | some (.struct fs) => (fs[0]?).map (fun fd => (fd.offset, fd.type)) | _ => none) = some (0, 3) := by kernel_rfl
theorem fld26_1 : fldB Try.prog 26 1 1 = true := by kernel_rfl
theorem fd26_1 : (match Try.prog.underlying 26 with | some (.struct fs) => (fs[1]?).map (fun fd => (fd.offset, fd.type)) | _ => none) = some (1, 3) := by kernel_rfl
theorem pl26 : plB Try.prog 26 [(0, 1), (1, 1)] = true := by kernel_rfl
theorem eqi26 : EqI Try.prog 26 2 := by
  intro xs ys hx hy w
  match xs, ys, hx, hy with
  | [a0, a1], [b0, b1], _, _ =>
    refine ⟨fun x y => run_eqGuard_agg w .eql 26 x y _ _ (by kernel_rfl), fun x y => run_eqGuard_agg w .neq 26 x y _ _ (by kernel_rfl), ?_⟩
    have hf : (Try.prog.fieldsOf 26).toList = [⟨ "Lo", 3, 0, false, "", "", 0⟩, ⟨ "Hi", 3, 1, false, "", "", 8⟩] := by kernel_rfl
    rw [show (10000 : Nat) = 9998 + 1 + 1 from rfl, run_equalIn_struct w (9998 + 1) 26 _ _ (by kernel_rfl) (by kernel_rfl), hf]
    have u3 := Try.underlying3; 
    simp [Op.eqFields, part, isAgg, run_underlying u3, iW, run_equalIn_int, u3, Result.andThen]
    (repeat' split) <;> simp_all
theorem sz27 : szB Try.prog 27 true 2 = true := by kernel_rfl
theorem by27 : byB Try.prog 27 16 = true := by kernel_rfl
theorem zr27 : zrB Try.prog 27 (.agg #[.int .i64 0, .int .i64 0]) := by unfold zrB; kernel_rfl
theorem fld27_0 : fldB Try.prog 27 0 0 = true := by kernel_rfl
theorem fd27_0 : (match Try.prog.underlying 27 with | some (.struct fs) => (fs[0]?).map (fun fd => (fd.offset, fd.type)) | _ => none) = some (0, 3) := by kernel_rfl
theorem fld27_1 : fldB Try.prog 27 1 1 = true := by kernel_rfl
theorem fd27_1 : (match Try.prog.underlying 27 with | some (.struct fs) => (fs[1]?).map (fun fd => (fd.offset, fd.type)) | _ => none) = some (1, 3) := by kernel_rfl
theorem pl27 : plB Try.prog 27 [(0, 1), (1, 1)] = true := by kernel_rfl
theorem eqi27 : EqI Try.prog 27 2 := by
  intro xs ys hx hy w
  match xs, ys, hx, hy with
  | [a0, a1], [b0, b1], _, _ =>
    refine ⟨fun x y => run_eqGuard_agg w .eql 27 x y _ _ (by kernel_rfl), fun x y => run_eqGuard_agg w .neq 27 x y _ _ (by kernel_rfl), ?_⟩
    have hf : (Try.prog.fieldsOf 27).toList = [⟨ "Lo", 3, 0, false, "", "", 0⟩, ⟨ "Hi", 3, 1, false, "", "", 8⟩] := by kernel_rfl
    rw [show (10000 : Nat) = 9998 + 1 + 1 from rfl, run_equalIn_struct w (9998 + 1) 27 _ _ (by kernel_rfl) (by kernel_rfl), hf]
    have u3 := Try.underlying3; 
    simp [Op.eqFields, part, isAgg, run_underlying u3, iW, run_equalIn_int, u3, Result.andThen]
    (repeat' split) <;> simp_all
theorem sz28 : szB Try.prog 28 false 1 = true := by kernel_rfl
theorem by28 : byB Try.prog 28 8 = true := by kernel_rfl
theorem zr28 : zrB Try.prog 28 (.int .i64 0) := by unfold zrB; kernel_rfl
theorem int28 : intB Try.prog 28 .i64 = true := by kernel_rfl
theorem sz31 : szB Try.prog 31 true 2 = true := by kernel_rfl
theorem by31 : byB Try.prog 31 16 = true := by kernel_rfl
theorem zr31 : zrB Try.prog 31 (.agg #[.int .i64 0, .int .i64 0]) := by unfold zrB; kernel_rfl
theorem fld31_0 : fldB Try.prog 31 0 0 = true := by kernel_rfl
theorem fd31_0 : (match Try.prog.underlying 31 with | some (.struct fs) => (fs[0]?).map (fun fd => (fd.offset, fd.type)) | _ => none) = some (0, 3) := by kernel_rfl
theorem fld31_1 : fldB Try.prog 31 1 1 = true := by kernel_rfl
theorem fd31_1 : (match Try.prog.underlying 31 with | some (.struct fs) => (fs[1]?).map (fun fd => (fd.offset, fd.type)) | _ => none) = some (1, 3) := by kernel_rfl
theorem pl31 : plB Try.prog 31 [(0, 1), (1, 1)] = true := by kernel_rfl
theorem eqi31 : EqI Try.prog 31 2 := by
  intro xs ys hx hy w
  match xs, ys, hx, hy with
  | [a0, a1], [b0, b1], _, _ =>
    refine ⟨fun x y => run_eqGuard_agg w .eql 31 x y _ _ (by kernel_rfl), fun x y => run_eqGuard_agg w .neq 31 x y _ _ (by kernel_rfl), ?_⟩
    have hf : (Try.prog.fieldsOf 31).toList = [⟨ "X", 3, 0, false, "", "", 0⟩, ⟨ "Z", 3, 1, false, "", "", 8⟩] := by kernel_rfl
    rw [show (10000 : Nat) = 9998 + 1 + 1 from rfl, run_equalIn_struct w (9998 + 1) 31 _ _ (by kernel_rfl) (by kernel_rfl), hf]
    have u3 := Try.underlying3; 
    simp [Op.eqFields, part, isAgg, run_underlying u3, iW, run_equalIn_int, u3, Result.andThen]
    (repeat' split) <;> simp_all
theorem sz32 : szB Try.prog 32 true 2 = true := by kernel_rfl
theorem by32 : byB Try.prog 32 16 = true := by kernel_rfl
theorem zr32 : zrB Try.prog 32 (.agg #[.int .i64 0, .int .i64 0]) := by unfold zrB; kernel_rfl
theorem fld32_0 : fldB Try.prog 32 0 0 = true := by kernel_rfl
theorem fd32_0 : (match Try.prog.underlying 32 with | some (.struct fs) => (fs[0]?).map (fun fd => (fd.offset, fd.type)) | _ => none) = some (0, 3) := by kernel_rfl
theorem fld32_1 : fldB Try.prog 32 1 1 = true := by kernel_rfl
theorem fd32_1 : (match Try.prog.underlying 32 with | some (.struct fs) => (fs[1]?).map (fun fd => (fd.offset, fd.type)) | _ => none) = some (1, 3) := by kernel_rfl
theorem pl32 : plB Try.prog 32 [(0, 1), (1, 1)] = true := by kernel_rfl
theorem eqi32 : EqI Try.prog 32 2 := by
  intro xs ys hx hy w
  match xs, ys, hx, hy with
  | [a0, a1], [b0, b1], _, _ =>
    refine ⟨fun x y => run_eqGuard_agg w .eql 32 x y _ _ (by kernel_rfl), fun x y => run_eqGuard_agg w .neq 32 x y _ _ (by kernel_rfl), ?_⟩
    have hf : (Try.prog.fieldsOf 32).toList = [⟨ "X", 3, 0, false, "", "", 0⟩, ⟨ "Z", 3, 1, false, "", "", 8⟩] := by kernel_rfl
    rw [show (10000 : Nat) = 9998 + 1 + 1 from rfl, run_equalIn_struct w (9998 + 1) 32 _ _ (by kernel_rfl) (by kernel_rfl), hf]
    have u3 := Try.underlying3; 
    simp [Op.eqFields, part, isAgg, run_underlying u3, iW, run_equalIn_int, u3, Result.andThen]
    (repeat' split) <;> simp_all
theorem sz33 : szB Try.prog 33 true 3 = true := by kernel_rfl
theorem by33 : byB Try.prog 33 24 = true := by kernel_rfl
theorem zr33 : zrB Try.prog 33 (.agg #[.int .i64 0, .int .i64 0, .int .i64 0]) := by unfold zrB; kernel_rfl
theorem fld33_0 : fldB Try.prog 33 0 0 = true := by kernel_rfl
theorem fd33_0 : (match Try.prog.underlying 33 with | some (.struct fs) => (fs[0]?).map (fun fd => (fd.offset, fd.type)) | _ => none) = some (0, 3) := by kernel_rfl
theorem fld33_1 : fldB Try.prog 33 1 1 = true := by kernel_rfl
theorem fd33_1 : (match Try.prog.underlying 33 with | some (.struct fs) => (fs[1]?).map (fun fd => (fd.offset, fd.type)) | _ => none) = some (1, 27) := by kernel_rfl
theorem pl33 : plB Try.prog 33 [(0, 1), (1, 2)] = true := by kernel_rfl
theorem sz34 : szB Try.prog 34 true 3 = true := by kernel_rfl
theorem by34 : byB Try.prog 34 24 = true := by kernel_rfl
theorem zr34 : zrB Try.prog 34 (.agg #[.int .i64 0, .int .i64 0, .int .i64 0]) := by unfold zrB; kernel_rfl
theorem fld34_0 : fldB Try.prog 34 0 0 = true := by kernel_rfl
theorem fd34_0 : (match Try.prog.underlying 34 with | some (.struct fs) => (fs[0]?).map (fun fd => (fd.offset, fd.type)) | _ => none) = some (0, 3) := by kernel_rfl
theorem fld34_1 : fldB Try.prog 34 1 1 = true := by kernel_rfl
theorem fd34_1 : (match Try.prog.underlying 34 with | some (.struct fs) => (fs[1]?).map (fun fd => (fd.offset, fd.type)) | _ => none) = some (1, 27) := by kernel_rfl
theorem pl34 : plB Try.prog 34 [(0, 1), (1, 2)] = true := by kernel_rfl
theorem sz39 : szB Try.prog 39 true 3 = true := by kernel_rfl
theorem by39 : byB Try.prog 39 24 = true := by kernel_rfl
theorem zr39 : zrB Try.prog 39 (.agg #[.int .i64 0, .int .i64 0, .int .i64 0]) := by unfold zrB; kernel_rfl
theorem ar39 : arB Try.prog 39 3 3 1 = true := by kernel_rfl
theorem eqi39 : EqI Try.prog 39 3 := by
  intro xs ys hx hy w
  match xs, ys, hx, hy with
  | [a0, a1, a2], [b0, b1, b2], _, _ =>
    refine ⟨fun x y => run_eqGuard_agg w .eql 39 x y _ _ (by kernel_rfl), fun x y => run_eqGuard_agg w .neq 39 x y _ _ (by kernel_rfl), ?_⟩
    have u := Try.underlying3
    obtain ⟨i, hi, _⟩ := arB_info ar39
    rw [show (10000 : Nat) = 9998 + 1 + 1 from rfl, run_equalIn_array w (9998 + 1) _ _ (arB_under ar39) hi, show Try.prog.cellsOf 3 = 1 from by kernel_rfl]
    simp [Op.eqItems, List.range, List.range.loop, part, isAgg, run_underlying u, iW, run_equalIn_int, u, Result.andThen]
    (repeat' split) <;> simp_all
theorem sz45 : szB Try.prog 45 false 1 = true := by kernel_rfl
theorem by45 : byB Try.prog 45 24 = true := by kernel_rfl
theorem zr45 : zrB Try.prog 45 (.slice none 0 0) := by unfold zrB; kernel_rfl
theorem sl45 : slB Try.prog 45 83 4 = true := by kernel_rfl
theorem isl45 : isSl Try.prog 45 = true := by kernel_rfl
theorem sz47 : szB Try.prog 47 false 1 = true := by kernel_rfl
theorem by47 : byB Try.prog 47 24 = true := by kernel_rfl
theorem zr47 : zrB Try.prog 47 (.slice none 0 0) := by unfold zrB; kernel_rfl
theorem sl47 : slB Try.prog 47 79 3 = true := by kernel_rfl
theorem isl47 : isSl Try.prog 47 = true := by kernel_rfl
theorem sz50 : szB Try.prog 50 true 2 = true := by kernel_rfl
theorem by50 : byB Try.prog 50 16 = true := by kernel_rfl
theorem zr50 : zrB Try.prog 50 (.agg #[.int .i64 0, .int .i64 0]) := by unfold zrB; kernel_rfl
theorem fld50_0 : fldB Try.prog 50 0 0 = true := by kernel_rfl
theorem fd50_0 : (match Try.prog.underlying 50 with | some (.struct fs) => (fs[0]?).map (fun fd => (fd.offset, fd.type)) | _ => none) = some (0, 3) := by kernel_rfl
theorem fld50_1 : fldB Try.prog 50 1 1 = true := by kernel_rfl
theorem fd50_1 : (match Try.prog.underlying 50 with | some (.struct fs) => (fs[1]?).map (fun fd => (fd.offset, fd.type)) | _ => none) = some (1, 3) := by kernel_rfl
theorem pl50 : plB Try.prog 50 [(0, 1), (1, 1)] = true := by kernel_rfl
theorem eqi50 : EqI Try.prog 50 2 := by
  intro xs ys hx hy w
  match xs, ys, hx, hy with
  | [a0, a1], [b0, b1], _, _ =>
    refine ⟨fun x y => run_eqGuard_agg w .eql 50 x y _ _ (by kernel_rfl), fun x y => run_eqGuard_agg w .neq 50 x y _ _ (by kernel_rfl), ?_⟩
    have hf : (Try.prog.fieldsOf 50).toList = [⟨ "Depth", 3, 0, false, "", "", 0⟩, ⟨ "Echo", 3, 1, false, "", "", 8⟩] := by kernel_rfl
    rw [show (10000 : Nat) = 9998 + 1 + 1 from rfl, run_equalIn_struct w (9998 + 1) 50 _ _ (by kernel_rfl) (by kernel_rfl), hf]
    have u3 := Try.underlying3; 
    simp [Op.eqFields, part, isAgg, run_underlying u3, iW, run_equalIn_int, u3, Result.andThen]
    (repeat' split) <;> simp_all
theorem sz51 : szB Try.prog 51 true 2 = true := by kernel_rfl
theorem by51 : byB Try.prog 51 16 = true := by kernel_rfl
theorem zr51 : zrB Try.prog 51 (.agg #[.int .i64 0, .int .i64 0]) := by unfold zrB; kernel_rfl
theorem fld51_0 : fldB Try.prog 51 0 0 = true := by kernel_rfl
theorem fd51_0 : (match Try.prog.underlying 51 with | some (.struct fs) => (fs[0]?).map (fun fd => (fd.offset, fd.type)) | _ => none) = some (0, 3) := by kernel_rfl
theorem fld51_1 : fldB Try.prog 51 1 1 = true := by kernel_rfl
theorem fd51_1 : (match Try.prog.underlying 51 with | some (.struct fs) => (fs[1]?).map (fun fd => (fd.offset, fd.type)) | _ => none) = some (1, 3) := by kernel_rfl
theorem pl51 : plB Try.prog 51 [(0, 1), (1, 1)] = true := by kernel_rfl
theorem eqi51 : EqI Try.prog 51 2 := by
  intro xs ys hx hy w
  match xs, ys, hx, hy with
  | [a0, a1], [b0, b1], _, _ =>
    refine ⟨fun x y => run_eqGuard_agg w .eql 51 x y _ _ (by kernel_rfl), fun x y => run_eqGuard_agg w .neq 51 x y _ _ (by kernel_rfl), ?_⟩
    have hf : (Try.prog.fieldsOf 51).toList = [⟨ "Depth", 3, 0, false, "", "", 0⟩, ⟨ "Echo", 3, 1, false, "", "", 8⟩] := by kernel_rfl
    rw [show (10000 : Nat) = 9998 + 1 + 1 from rfl, run_equalIn_struct w (9998 + 1) 51 _ _ (by kernel_rfl) (by kernel_rfl), hf]
    have u3 := Try.underlying3; 
    simp [Op.eqFields, part, isAgg, run_underlying u3, iW, run_equalIn_int, u3, Result.andThen]
    (repeat' split) <;> simp_all
theorem sz52 : szB Try.prog 52 false 1 = true := by kernel_rfl
theorem by52 : byB Try.prog 52 24 = true := by kernel_rfl
theorem zr52 : zrB Try.prog 52 (.slice none 0 0) := by unfold zrB; kernel_rfl
theorem sl52 : slB Try.prog 52 51 2 = true := by kernel_rfl
theorem isl52 : isSl Try.prog 52 = true := by kernel_rfl
theorem sz58 : szB Try.prog 58 false 1 = true := by kernel_rfl
theorem by58 : byB Try.prog 58 24 = true := by kernel_rfl
theorem zr58 : zrB Try.prog 58 (.slice none 0 0) := by unfold zrB; kernel_rfl
theorem sl58 : slB Try.prog 58 34 3 = true := by kernel_rfl
theorem isl58 : isSl Try.prog 58 = true := by kernel_rfl
theorem sz64 : szB Try.prog 64 true 2 = true := by kernel_rfl
theorem by64 : byB Try.prog 64 16 = true := by kernel_rfl
theorem zr64 : zrB Try.prog 64 (.agg #[.int .i64 0, .int .i64 0]) := by unfold zrB; kernel_rfl
theorem fld64_0 : fldB Try.prog 64 0 0 = true := by kernel_rfl
theorem fd64_0 : (match Try.prog.underlying 64 with | some (.struct fs) => (fs[0]?).map (fun fd => (fd.offset, fd.type)) | _ => none) = some (0, 3) := by kernel_rfl
theorem fld64_1 : fldB Try.prog 64 1 1 = true := by kernel_rfl
theorem fd64_1 : (match Try.prog.underlying 64 with | some (.struct fs) => (fs[1]?).map (fun fd => (fd.offset, fd.type)) | _ => none) = some (1, 3) := by kernel_rfl
theorem pl64 : plB Try.prog 64 [(0, 1), (1, 1)] = true := by kernel_rfl
theorem eqi64 : EqI Try.prog 64 2 := by
  intro xs ys hx hy w
  match xs, ys, hx, hy with
  | [a0, a1], [b0, b1], _, _ =>
    refine ⟨fun x y => run_eqGuard_agg w .eql 64 x y _ _ (by kernel_rfl), fun x y => run_eqGuard_agg w .neq 64 x y _ _ (by kernel_rfl), ?_⟩
    have hf : (Try.prog.fieldsOf 64).toList = [⟨ "num", 3, 0, false, "", "couplant/tune", 0⟩, ⟨ "den", 3, 1, false, "", "couplant/tune", 8⟩] := by kernel_rfl
    rw [show (10000 : Nat) = 9998 + 1 + 1 from rfl, run_equalIn_struct w (9998 + 1) 64 _ _ (by kernel_rfl) (by kernel_rfl), hf]
    have u3 := Try.underlying3; 
    simp [Op.eqFields, part, isAgg, run_underlying u3, iW, run_equalIn_int, u3, Result.andThen]
    (repeat' split) <;> simp_all
theorem sz65 : szB Try.prog 65 true 2 = true := by kernel_rfl
theorem by65 : byB Try.prog 65 16 = true := by kernel_rfl
theorem zr65 : zrB Try.prog 65 (.agg #[.int .i64 0, .int .i64 0]) := by unfold zrB; kernel_rfl
theorem fld65_0 : fldB Try.prog 65 0 0 = true := by kernel_rfl
theorem fd65_0 : (match Try.prog.underlying 65 with | some (.struct fs) => (fs[0]?).map (fun fd => (fd.offset, fd.type)) | _ => none) = some (0, 3) := by kernel_rfl
theorem fld65_1 : fldB Try.prog 65 1 1 = true := by kernel_rfl
theorem fd65_1 : (match Try.prog.underlying 65 with | some (.struct fs) => (fs[1]?).map (fun fd => (fd.offset, fd.type)) | _ => none) = some (1, 3) := by kernel_rfl
theorem pl65 : plB Try.prog 65 [(0, 1), (1, 1)] = true := by kernel_rfl
theorem eqi65 : EqI Try.prog 65 2 := by
  intro xs ys hx hy w
  match xs, ys, hx, hy with
  | [a0, a1], [b0, b1], _, _ =>
    refine ⟨fun x y => run_eqGuard_agg w .eql 65 x y _ _ (by kernel_rfl), fun x y => run_eqGuard_agg w .neq 65 x y _ _ (by kernel_rfl), ?_⟩
    have hf : (Try.prog.fieldsOf 65).toList = [⟨ "num", 3, 0, false, "", "couplant/tune", 0⟩, ⟨ "den", 3, 1, false, "", "couplant/tune", 8⟩] := by kernel_rfl
    rw [show (10000 : Nat) = 9998 + 1 + 1 from rfl, run_equalIn_struct w (9998 + 1) 65 _ _ (by kernel_rfl) (by kernel_rfl), hf]
    have u3 := Try.underlying3; 
    simp [Op.eqFields, part, isAgg, run_underlying u3, iW, run_equalIn_int, u3, Result.andThen]
    (repeat' split) <;> simp_all
theorem sz74 : szB Try.prog 74 false 1 = true := by kernel_rfl
theorem by74 : byB Try.prog 74 8 = true := by kernel_rfl
theorem zr74 : zrB Try.prog 74 (.pointer none) := by unfold zrB; kernel_rfl
theorem sz78 : szB Try.prog 78 true 3 = true := by kernel_rfl
theorem by78 : byB Try.prog 78 24 = true := by kernel_rfl
theorem zr78 : zrB Try.prog 78 (.agg #[.int .i64 0, .int .i64 0, .int .i64 0]) := by unfold zrB; kernel_rfl
theorem fld78_0 : fldB Try.prog 78 0 0 = true := by kernel_rfl
theorem fd78_0 : (match Try.prog.underlying 78 with | some (.struct fs) => (fs[0]?).map (fun fd => (fd.offset, fd.type)) | _ => none) = some (0, 3) := by kernel_rfl
theorem fld78_1 : fldB Try.prog 78 1 1 = true := by kernel_rfl
theorem fd78_1 : (match Try.prog.underlying 78 with | some (.struct fs) => (fs[1]?).map (fun fd => (fd.offset, fd.type)) | _ => none) = some (1, 3) := by kernel_rfl
theorem fld78_2 : fldB Try.prog 78 2 2 = true := by kernel_rfl
theorem fd78_2 : (match Try.prog.underlying 78 with | some (.struct fs) => (fs[2]?).map (fun fd => (fd.offset, fd.type)) | _ => none) = some (2, 3) := by kernel_rfl
theorem pl78 : plB Try.prog 78 [(0, 1), (1, 1), (2, 1)] = true := by kernel_rfl
theorem eqi78 : EqI Try.prog 78 3 := by
  intro xs ys hx hy w
  match xs, ys, hx, hy with
  | [a0, a1, a2], [b0, b1, b2], _, _ =>
    refine ⟨fun x y => run_eqGuard_agg w .eql 78 x y _ _ (by kernel_rfl), fun x y => run_eqGuard_agg w .neq 78 x y _ _ (by kernel_rfl), ?_⟩
    have hf : (Try.prog.fieldsOf 78).toList = [⟨ "Minute", 3, 0, false, "", "", 0⟩, ⟨ "Step", 3, 1, false, "", "", 8⟩, ⟨ "Warmth", 3, 2, false, "", "", 16⟩] := by kernel_rfl
    rw [show (10000 : Nat) = 9998 + 1 + 1 from rfl, run_equalIn_struct w (9998 + 1) 78 _ _ (by kernel_rfl) (by kernel_rfl), hf]
    have u3 := Try.underlying3; 
    simp [Op.eqFields, part, isAgg, run_underlying u3, iW, run_equalIn_int, u3, Result.andThen]
    (repeat' split) <;> simp_all
theorem sz79 : szB Try.prog 79 true 3 = true := by kernel_rfl
theorem by79 : byB Try.prog 79 24 = true := by kernel_rfl
theorem zr79 : zrB Try.prog 79 (.agg #[.int .i64 0, .int .i64 0, .int .i64 0]) := by unfold zrB; kernel_rfl
theorem fld79_0 : fldB Try.prog 79 0 0 = true := by kernel_rfl
theorem fd79_0 : (match Try.prog.underlying 79 with | some (.struct fs) => (fs[0]?).map (fun fd => (fd.offset, fd.type)) | _ => none) = some (0, 3) := by kernel_rfl
theorem fld79_1 : fldB Try.prog 79 1 1 = true := by kernel_rfl
theorem fd79_1 : (match Try.prog.underlying 79 with | some (.struct fs) => (fs[1]?).map (fun fd => (fd.offset, fd.type)) | _ => none) = some (1, 3) := by kernel_rfl
theorem fld79_2 : fldB Try.prog 79 2 2 = true := by kernel_rfl
theorem fd79_2 : (match Try.prog.underlying 79 with | some (.struct fs) => (fs[2]?).map (fun fd => (fd.offset, fd.type)) | _ => none) = some (2, 3) := by kernel_rfl
theorem pl79 : plB Try.prog 79 [(0, 1), (1, 1), (2, 1)] = true := by kernel_rfl
theorem eqi79 : EqI Try.prog 79 3 := by
  intro xs ys hx hy w
  match xs, ys, hx, hy with
  | [a0, a1, a2], [b0, b1, b2], _, _ =>
    refine ⟨fun x y => run_eqGuard_agg w .eql 79 x y _ _ (by kernel_rfl), fun x y => run_eqGuard_agg w .neq 79 x y _ _ (by kernel_rfl), ?_⟩
    have hf : (Try.prog.fieldsOf 79).toList = [⟨ "Minute", 3, 0, false, "", "", 0⟩, ⟨ "Step", 3, 1, false, "", "", 8⟩, ⟨ "Warmth", 3, 2, false, "", "", 16⟩] := by kernel_rfl
    rw [show (10000 : Nat) = 9998 + 1 + 1 from rfl, run_equalIn_struct w (9998 + 1) 79 _ _ (by kernel_rfl) (by kernel_rfl), hf]
    have u3 := Try.underlying3; 
    simp [Op.eqFields, part, isAgg, run_underlying u3, iW, run_equalIn_int, u3, Result.andThen]
    (repeat' split) <;> simp_all
theorem sz82 : szB Try.prog 82 true 4 = true := by kernel_rfl
theorem by82 : byB Try.prog 82 56 = true := by kernel_rfl
theorem zr82 : zrB Try.prog 82 (.agg #[.string ⟨#[]⟩, .int .i64 0, .int .i64 0, .slice none 0 0]) := by unfold zrB; kernel_rfl
theorem fld82_0 : fldB Try.prog 82 0 0 = true := by kernel_rfl
theorem fd82_0 : (match Try.prog.underlying 82 with | some (.struct fs) => (fs[0]?).map (fun fd => (fd.offset, fd.type)) | _ => none) = some (0, 9) := by kernel_rfl
theorem fld82_1 : fldB Try.prog 82 1 1 = true := by kernel_rfl
theorem fd82_1 : (match Try.prog.underlying 82 with | some (.struct fs) => (fs[1]?).map (fun fd => (fd.offset, fd.type)) | _ => none) = some (1, 3) := by kernel_rfl
theorem fld82_2 : fldB Try.prog 82 2 2 = true := by kernel_rfl
theorem fd82_2 : (match Try.prog.underlying 82 with | some (.struct fs) => (fs[2]?).map (fun fd => (fd.offset, fd.type)) | _ => none) = some (2, 3) := by kernel_rfl
theorem fld82_3 : fldB Try.prog 82 3 3 = true := by kernel_rfl
theorem fd82_3 : (match Try.prog.underlying 82 with | some (.struct fs) => (fs[3]?).map (fun fd => (fd.offset, fd.type)) | _ => none) = some (3, 22) := by kernel_rfl
theorem pl82 : plB Try.prog 82 [(0, 1), (1, 1), (2, 1), (3, 1)] = true := by kernel_rfl
theorem sz83 : szB Try.prog 83 true 4 = true := by kernel_rfl
theorem by83 : byB Try.prog 83 56 = true := by kernel_rfl
theorem zr83 : zrB Try.prog 83 (.agg #[.string ⟨#[]⟩, .int .i64 0, .int .i64 0, .slice none 0 0]) := by unfold zrB; kernel_rfl
theorem fld83_0 : fldB Try.prog 83 0 0 = true := by kernel_rfl
theorem fd83_0 : (match Try.prog.underlying 83 with | some (.struct fs) => (fs[0]?).map (fun fd => (fd.offset, fd.type)) | _ => none) = some (0, 9) := by kernel_rfl
theorem fld83_1 : fldB Try.prog 83 1 1 = true := by kernel_rfl
theorem fd83_1 : (match Try.prog.underlying 83 with | some (.struct fs) => (fs[1]?).map (fun fd => (fd.offset, fd.type)) | _ => none) = some (1, 3) := by kernel_rfl
theorem fld83_2 : fldB Try.prog 83 2 2 = true := by kernel_rfl
theorem fd83_2 : (match Try.prog.underlying 83 with | some (.struct fs) => (fs[2]?).map (fun fd => (fd.offset, fd.type)) | _ => none) = some (2, 3) := by kernel_rfl
theorem fld83_3 : fldB Try.prog 83 3 3 = true := by kernel_rfl
theorem fd83_3 : (match Try.prog.underlying 83 with | some (.struct fs) => (fs[3]?).map (fun fd => (fd.offset, fd.type)) | _ => none) = some (3, 22) := by kernel_rfl
theorem pl83 : plB Try.prog 83 [(0, 1), (1, 1), (2, 1), (3, 1)] = true := by kernel_rfl
theorem sz86 : szB Try.prog 86 false 1 = true := by kernel_rfl
theorem by86 : byB Try.prog 86 24 = true := by kernel_rfl
theorem zr86 : zrB Try.prog 86 (.slice none 0 0) := by unfold zrB; kernel_rfl
theorem sl86 : slB Try.prog 86 28 1 = true := by kernel_rfl
theorem isl86 : isSl Try.prog 86 = true := by kernel_rfl
theorem sz95 : szB Try.prog 95 false 1 = true := by kernel_rfl
theorem by95 : byB Try.prog 95 24 = true := by kernel_rfl
theorem zr95 : zrB Try.prog 95 (.slice none 0 0) := by unfold zrB; kernel_rfl
theorem sl95 : slB Try.prog 95 98 4 = true := by kernel_rfl
theorem isl95 : isSl Try.prog 95 = true := by kernel_rfl
theorem sz97 : szB Try.prog 97 true 4 = true := by kernel_rfl
theorem by97 : byB Try.prog 97 24 = true := by kernel_rfl
theorem zr97 : zrB Try.prog 97 (.agg #[.bool false, .bool false, .int .i64 0, .int .i64 0]) := by unfold zrB; kernel_rfl
theorem fld97_0 : fldB Try.prog 97 0 0 = true := by kernel_rfl
theorem fd97_0 : (match Try.prog.underlying 97 with | some (.struct fs) => (fs[0]?).map (fun fd => (fd.offset, fd.type)) | _ => none) = some (0, 4) := by kernel_rfl
theorem fld97_1 : fldB Try.prog 97 1 1 = true := by kernel_rfl
theorem fd97_1 : (match Try.prog.underlying 97 with | some (.struct fs) => (fs[1]?).map (fun fd => (fd.offset, fd.type)) | _ => none) = some (1, 4) := by kernel_rfl
theorem fld97_2 : fldB Try.prog 97 2 2 = true := by kernel_rfl
theorem fd97_2 : (match Try.prog.underlying 97 with | some (.struct fs) => (fs[2]?).map (fun fd => (fd.offset, fd.type)) | _ => none) = some (2, 3) := by kernel_rfl
theorem fld97_3 : fldB Try.prog 97 3 3 = true := by kernel_rfl
theorem fd97_3 : (match Try.prog.underlying 97 with | some (.struct fs) => (fs[3]?).map (fun fd => (fd.offset, fd.type)) | _ => none) = some (3, 3) := by kernel_rfl
theorem pl97 : plB Try.prog 97 [(0, 1), (1, 1), (2, 1), (3, 1)] = true := by kernel_rfl
theorem sz98 : szB Try.prog 98 true 4 = true := by kernel_rfl
theorem by98 : byB Try.prog 98 24 = true := by kernel_rfl
theorem zr98 : zrB Try.prog 98 (.agg #[.bool false, .bool false, .int .i64 0, .int .i64 0]) := by unfold zrB; kernel_rfl
theorem fld98_0 : fldB Try.prog 98 0 0 = true := by kernel_rfl
theorem fd98_0 : (match Try.prog.underlying 98 with | some (.struct fs) => (fs[0]?).map (fun fd => (fd.offset, fd.type)) | _ => none) = some (0, 4) := by kernel_rfl
theorem fld98_1 : fldB Try.prog 98 1 1 = true := by kernel_rfl
theorem fd98_1 : (match Try.prog.underlying 98 with | some (.struct fs) => (fs[1]?).map (fun fd => (fd.offset, fd.type)) | _ => none) = some (1, 4) := by kernel_rfl
theorem fld98_2 : fldB Try.prog 98 2 2 = true := by kernel_rfl
theorem fd98_2 : (match Try.prog.underlying 98 with | some (.struct fs) => (fs[2]?).map (fun fd => (fd.offset, fd.type)) | _ => none) = some (2, 3) := by kernel_rfl
theorem fld98_3 : fldB Try.prog 98 3 3 = true := by kernel_rfl
theorem fd98_3 : (match Try.prog.underlying 98 with | some (.struct fs) => (fs[3]?).map (fun fd => (fd.offset, fd.type)) | _ => none) = some (3, 3) := by kernel_rfl
theorem pl98 : plB Try.prog 98 [(0, 1), (1, 1), (2, 1), (3, 1)] = true := by kernel_rfl
theorem sz99 : szB Try.prog 99 true 2 = true := by kernel_rfl
theorem by99 : byB Try.prog 99 48 = true := by kernel_rfl
theorem zr99 : zrB Try.prog 99 (.agg #[.slice none 0 0, .slice none 0 0]) := by unfold zrB; kernel_rfl
theorem fld99_0 : fldB Try.prog 99 0 0 = true := by kernel_rfl
theorem fd99_0 : (match Try.prog.underlying 99 with | some (.struct fs) => (fs[0]?).map (fun fd => (fd.offset, fd.type)) | _ => none) = some (0, 45) := by kernel_rfl
theorem fld99_1 : fldB Try.prog 99 1 1 = true := by kernel_rfl
theorem fd99_1 : (match Try.prog.underlying 99 with | some (.struct fs) => (fs[1]?).map (fun fd => (fd.offset, fd.type)) | _ => none) = some (1, 95) := by kernel_rfl
theorem pl99 : plB Try.prog 99 [(0, 1), (1, 1)] = true := by kernel_rfl
theorem sz100 : szB Try.prog 100 true 2 = true := by kernel_rfl
theorem by100 : byB Try.prog 100 48 = true := by kernel_rfl
theorem zr100 : zrB Try.prog 100 (.agg #[.slice none 0 0, .slice none 0 0]) := by unfold zrB; kernel_rfl
theorem fld100_0 : fldB Try.prog 100 0 0 = true := by kernel_rfl
theorem fd100_0 : (match Try.prog.underlying 100 with | some (.struct fs) => (fs[0]?).map (fun fd => (fd.offset, fd.type)) | _ => none) = some (0, 45) := by kernel_rfl
theorem fld100_1 : fldB Try.prog 100 1 1 = true := by kernel_rfl
theorem fd100_1 : (match Try.prog.underlying 100 with | some (.struct fs) => (fs[1]?).map (fun fd => (fd.offset, fd.type)) | _ => none) = some (1, 95) := by kernel_rfl
theorem pl100 : plB Try.prog 100 [(0, 1), (1, 1)] = true := by kernel_rfl
theorem sz112 : szB Try.prog 112 false 1 = true := by kernel_rfl
theorem by112 : byB Try.prog 112 8 = true := by kernel_rfl
theorem zr112 : zrB Try.prog 112 (.pointer none) := by unfold zrB; kernel_rfl
theorem sz114 : szB Try.prog 114 false 1 = true := by kernel_rfl
theorem by114 : byB Try.prog 114 8 = true := by kernel_rfl
theorem zr114 : zrB Try.prog 114 (.int .u64 0) := by unfold zrB; kernel_rfl
theorem int114 : intB Try.prog 114 .u64 = true := by kernel_rfl
theorem sz115 : szB Try.prog 115 false 1 = true := by kernel_rfl
theorem by115 : byB Try.prog 115 24 = true := by kernel_rfl
theorem zr115 : zrB Try.prog 115 (.slice none 0 0) := by unfold zrB; kernel_rfl
theorem sl115 : slB Try.prog 115 5 1 = true := by kernel_rfl
theorem isl115 : isSl Try.prog 115 = true := by kernel_rfl
theorem sz119 : szB Try.prog 119 true 4 = true := by kernel_rfl
theorem by119 : byB Try.prog 119 40 = true := by kernel_rfl
theorem zr119 : zrB Try.prog 119 (.agg #[.pointer none, .pointer none, .pointer none, .string ⟨#[]⟩]) := by unfold zrB; kernel_rfl
theorem fld119_0 : fldB Try.prog 119 0 0 = true := by kernel_rfl
theorem fd119_0 : (match Try.prog.underlying 119 with | some (.struct fs) => (fs[0]?).map (fun fd => (fd.offset, fd.type)) | _ => none) = some (0, 17) := by kernel_rfl
theorem fld119_1 : fldB Try.prog 119 1 1 = true := by kernel_rfl
theorem fd119_1 : (match Try.prog.underlying 119 with | some (.struct fs) => (fs[1]?).map (fun fd => (fd.offset, fd.type)) | _ => none) = some (1, 17) := by kernel_rfl
theorem fld119_2 : fldB Try.prog 119 2 2 = true := by kernel_rfl
theorem fd119_2 : (match Try.prog.underlying 119 with | some (.struct fs) => (fs[2]?).map (fun fd => (fd.offset, fd.type)) | _ => none) = some (2, 17) := by kernel_rfl
theorem fld119_3 : fldB Try.prog 119 3 3 = true := by kernel_rfl
theorem fd119_3 : (match Try.prog.underlying 119 with | some (.struct fs) => (fs[3]?).map (fun fd => (fd.offset, fd.type)) | _ => none) = some (3, 9) := by kernel_rfl
theorem pl119 : plB Try.prog 119 [(0, 1), (1, 1), (2, 1), (3, 1)] = true := by kernel_rfl
theorem sz120 : szB Try.prog 120 true 4 = true := by kernel_rfl
theorem by120 : byB Try.prog 120 40 = true := by kernel_rfl
theorem zr120 : zrB Try.prog 120 (.agg #[.pointer none, .pointer none, .pointer none, .string ⟨#[]⟩]) := by unfold zrB; kernel_rfl
theorem fld120_0 : fldB Try.prog 120 0 0 = true := by kernel_rfl
theorem fd120_0 : (match Try.prog.underlying 120 with | some (.struct fs) => (fs[0]?).map (fun fd => (fd.offset, fd.type)) | _ => none) = some (0, 17) := by kernel_rfl
theorem fld120_1 : fldB Try.prog 120 1 1 = true := by kernel_rfl
theorem fd120_1 : (match Try.prog.underlying 120 with | some (.struct fs) => (fs[1]?).map (fun fd => (fd.offset, fd.type)) | _ => none) = some (1, 17) := by kernel_rfl
theorem fld120_2 : fldB Try.prog 120 2 2 = true := by kernel_rfl
theorem fd120_2 : (match Try.prog.underlying 120 with | some (.struct fs) => (fs[2]?).map (fun fd => (fd.offset, fd.type)) | _ => none) = some (2, 17) := by kernel_rfl
theorem fld120_3 : fldB Try.prog 120 3 3 = true := by kernel_rfl
theorem fd120_3 : (match Try.prog.underlying 120 with | some (.struct fs) => (fs[3]?).map (fun fd => (fd.offset, fd.type)) | _ => none) = some (3, 9) := by kernel_rfl
theorem pl120 : plB Try.prog 120 [(0, 1), (1, 1), (2, 1), (3, 1)] = true := by kernel_rfl
theorem sz121 : szB Try.prog 121 true 0 = true := by kernel_rfl
theorem by121 : byB Try.prog 121 0 = true := by kernel_rfl
theorem zr121 : zrB Try.prog 121 (.agg #[]) := by unfold zrB; kernel_rfl
theorem ar121 : arB Try.prog 121 0 16 1 = true := by kernel_rfl
theorem sz122 : szB Try.prog 122 true 0 = true := by kernel_rfl
theorem by122 : byB Try.prog 122 0 = true := by kernel_rfl
theorem zr122 : zrB Try.prog 122 (.agg #[]) := by unfold zrB; kernel_rfl
theorem fd122_0 : (match Try.prog.underlying 122 with | some (.struct fs) => (fs[0]?).map (fun fd => (fd.offset, fd.type)) | _ => none) = some (0, 121) := by kernel_rfl
theorem pl122 : plB Try.prog 122 [(0, 0)] = true := by kernel_rfl
theorem sz123 : szB Try.prog 123 true 0 = true := by kernel_rfl
theorem by123 : byB Try.prog 123 0 = true := by kernel_rfl
theorem zr123 : zrB Try.prog 123 (.agg #[]) := by unfold zrB; kernel_rfl
theorem fd123_0 : (match Try.prog.underlying 123 with | some (.struct fs) => (fs[0]?).map (fun fd => (fd.offset, fd.type)) | _ => none) = some (0, 121) := by kernel_rfl
theorem pl123 : plB Try.prog 123 [(0, 0)] = true := by kernel_rfl
theorem sz125 : szB Try.prog 125 false 1 = true := by kernel_rfl
theorem by125 : byB Try.prog 125 4 = true := by kernel_rfl
theorem zr125 : zrB Try.prog 125 (.int .u32 0) := by unfold zrB; kernel_rfl
theorem int125 : intB Try.prog 125 .u32 = true := by kernel_rfl
theorem sz126 : szB Try.prog 126 false 1 = true := by kernel_rfl
theorem by126 : byB Try.prog 126 1 = true := by kernel_rfl
theorem zr126 : zrB Try.prog 126 (.int .u8 0) := by unfold zrB; kernel_rfl
theorem int126 : intB Try.prog 126 .u8 = true := by kernel_rfl
theorem sz127 : szB Try.prog 127 false 1 = true := by kernel_rfl
theorem by127 : byB Try.prog 127 1 = true := by kernel_rfl
theorem zr127 : zrB Try.prog 127 (.int .u8 0) := by unfold zrB; kernel_rfl
theorem int127 : intB Try.prog 127 .u8 = true := by kernel_rfl
theorem sz129 : szB Try.prog 129 false 1 = true := by kernel_rfl
theorem by129 : byB Try.prog 129 8 = true := by kernel_rfl
theorem zr129 : zrB Try.prog 129 (.pointer none) := by unfold zrB; kernel_rfl
theorem sz130 : szB Try.prog 130 false 1 = true := by kernel_rfl
theorem by130 : byB Try.prog 130 4 = true := by kernel_rfl
theorem zr130 : zrB Try.prog 130 (.int .i32 0) := by unfold zrB; kernel_rfl
theorem int130 : intB Try.prog 130 .i32 = true := by kernel_rfl
theorem sz131 : szB Try.prog 131 false 1 = true := by kernel_rfl
theorem by131 : byB Try.prog 131 4 = true := by kernel_rfl
theorem zr131 : zrB Try.prog 131 (.int .i32 0) := by unfold zrB; kernel_rfl
theorem int131 : intB Try.prog 131 .i32 = true := by kernel_rfl
theorem sz132 : szB Try.prog 132 true 11 = true := by kernel_rfl
theorem by132 : byB Try.prog 132 48 = true := by kernel_rfl
theorem zr132 : zrB Try.prog 132 (.agg #[.int .u64 0, .int .u64 0, .int .u32 0, .int .u8 0, .int .u8 0, .int .u8 0, .int .u8 0, .nilFunc, .pointer none, .int .i32 0, .int .i32 0]) := by unfold zrB; kernel_rfl
theorem fld132_0 : fldB Try.prog 132 0 0 = true := by kernel_rfl
theorem fd132_0 : (match Try.prog.underlying 132 with | some (.struct fs) => (fs[0]?).map (fun fd => (fd.offset, fd.type)) | _ => none) = some (0, 12) := by kernel_rfl
theorem fld132_1 : fldB Try.prog 132 1 1 = true := by kernel_rfl
theorem fd132_1 : (match Try.prog.underlying 132 with | some (.struct fs) => (fs[1]?).map (fun fd => (fd.offset, fd.type)) | _ => none) = some (1, 12) := by kernel_rfl
theorem fld132_2 : fldB Try.prog 132 2 2 = true := by kernel_rfl
theorem fd132_2 : (match Try.prog.underlying 132 with | some (.struct fs) => (fs[2]?).map (fun fd => (fd.offset, fd.type)) | _ => none) = some (2, 125) := by kernel_rfl
theorem fld132_3 : fldB Try.prog 132 3 3 = true := by kernel_rfl
theorem fd132_3 : (match Try.prog.underlying 132 with | some (.struct fs) => (fs[3]?).map (fun fd => (fd.offset, fd.type)) | _ => none) = some (3, 126) := by kernel_rfl
theorem fld132_4 : fldB Try.prog 132 4 4 = true := by kernel_rfl
theorem fd132_4 : (match Try.prog.underlying 132 with | some (.struct fs) => (fs[4]?).map (fun fd => (fd.offset, fd.type)) | _ => none) = some (4, 5) := by kernel_rfl
theorem fld132_5 : fldB Try.prog 132 5 5 = true := by kernel_rfl
theorem fd132_5 : (match Try.prog.underlying 132 with | some (.struct fs) => (fs[5]?).map (fun fd => (fd.offset, fd.type)) | _ => none) = some (5, 5) := by kernel_rfl
theorem fld132_6 : fldB Try.prog 132 6 6 = true := by kernel_rfl
theorem fd132_6 : (match Try.prog.underlying 132 with | some (.struct fs) => (fs[6]?).map (fun fd => (fd.offset, fd.type)) | _ => none) = some (6, 127) := by kernel_rfl
theorem fld132_7 : fldB Try.prog 132 7 7 = true := by kernel_rfl
theorem fd132_7 : (match Try.prog.underlying 132 with | some (.struct fs) => (fs[7]?).map (fun fd => (fd.offset, fd.type)) | _ => none) = some (7, 128) := by kernel_rfl
theorem fld132_8 : fldB Try.prog 132 8 8 = true := by kernel_rfl
theorem fd132_8 : (match Try.prog.underlying 132 with | some (.struct fs) => (fs[8]?).map (fun fd => (fd.offset, fd.type)) | _ => none) = some (8, 129) := by kernel_rfl
theorem fld132_9 : fldB Try.prog 132 9 9 = true := by kernel_rfl
theorem fd132_9 : (match Try.prog.underlying 132 with | some (.struct fs) => (fs[9]?).map (fun fd => (fd.offset, fd.type)) | _ => none) = some (9, 130) := by kernel_rfl
theorem fld132_10 : fldB Try.prog 132 10 10 = true := by kernel_rfl
theorem fd132_10 : (match Try.prog.underlying 132 with | some (.struct fs) => (fs[10]?).map (fun fd => (fd.offset, fd.type)) | _ => none) = some (10, 131) := by kernel_rfl
theorem pl132 : plB Try.prog 132 [(0, 1), (1, 1), (2, 1), (3, 1), (4, 1), (5, 1), (6, 1), (7, 1), (8, 1), (9, 1), (10, 1)] = true := by kernel_rfl
theorem sz133 : szB Try.prog 133 true 11 = true := by kernel_rfl
theorem by133 : byB Try.prog 133 48 = true := by kernel_rfl
theorem zr133 : zrB Try.prog 133 (.agg #[.int .u64 0, .int .u64 0, .int .u32 0, .int .u8 0, .int .u8 0, .int .u8 0, .int .u8 0, .nilFunc, .pointer none, .int .i32 0, .int .i32 0]) := by unfold zrB; kernel_rfl
theorem fld133_0 : fldB Try.prog 133 0 0 = true := by kernel_rfl
theorem fd133_0 : (match Try.prog.underlying 133 with | some (.struct fs) => (fs[0]?).map (fun fd => (fd.offset, fd.type)) | _ => none) = some (0, 12) := by kernel_rfl
theorem fld133_1 : fldB Try.prog 133 1 1 = true := by kernel_rfl
theorem fd133_1 : (match Try.prog.underlying 133 with | some (.struct fs) => (fs[1]?).map (fun fd => (fd.offset, fd.type)) | _ => none) = some (1, 12) := by kernel_rfl
theorem fld133_2 : fldB Try.prog 133 2 2 = true := by kernel_rfl
theorem fd133_2 : (match Try.prog.underlying 133 with | some (.struct fs) => (fs[2]?).map (fun fd => (fd.offset, fd.type)) | _ => none) = some (2, 125) := by kernel_rfl
theorem fld133_3 : fldB Try.prog 133 3 3 = true := by kernel_rfl
theorem fd133_3 : (match Try.prog.underlying 133 with | some (.struct fs) => (fs[3]?).map (fun fd => (fd.offset, fd.type)) | _ => none) = some (3, 126) := by kernel_rfl
theorem fld133_4 : fldB Try.prog 133 4 4 = true := by kernel_rfl
theorem fd133_4 : (match Try.prog.underlying 133 with | some (.struct fs) => (fs[4]?).map (fun fd => (fd.offset, fd.type)) | _ => none) = some (4, 5) := by kernel_rfl
theorem fld133_5 : fldB Try.prog 133 5 5 = true := by kernel_rfl
theorem fd133_5 : (match Try.prog.underlying 133 with | some (.struct fs) => (fs[5]?).map (fun fd => (fd.offset, fd.type)) | _ => none) = some (5, 5) := by kernel_rfl
theorem fld133_6 : fldB Try.prog 133 6 6 = true := by kernel_rfl
theorem fd133_6 : (match Try.prog.underlying 133 with | some (.struct fs) => (fs[6]?).map (fun fd => (fd.offset, fd.type)) | _ => none) = some (6, 127) := by kernel_rfl
theorem fld133_7 : fldB Try.prog 133 7 7 = true := by kernel_rfl
theorem fd133_7 : (match Try.prog.underlying 133 with | some (.struct fs) => (fs[7]?).map (fun fd => (fd.offset, fd.type)) | _ => none) = some (7, 128) := by kernel_rfl
theorem fld133_8 : fldB Try.prog 133 8 8 = true := by kernel_rfl
theorem fd133_8 : (match Try.prog.underlying 133 with | some (.struct fs) => (fs[8]?).map (fun fd => (fd.offset, fd.type)) | _ => none) = some (8, 129) := by kernel_rfl
theorem fld133_9 : fldB Try.prog 133 9 9 = true := by kernel_rfl
theorem fd133_9 : (match Try.prog.underlying 133 with | some (.struct fs) => (fs[9]?).map (fun fd => (fd.offset, fd.type)) | _ => none) = some (9, 130) := by kernel_rfl
theorem fld133_10 : fldB Try.prog 133 10 10 = true := by kernel_rfl
theorem fd133_10 : (match Try.prog.underlying 133 with | some (.struct fs) => (fs[10]?).map (fun fd => (fd.offset, fd.type)) | _ => none) = some (10, 131) := by kernel_rfl
theorem pl133 : plB Try.prog 133 [(0, 1), (1, 1), (2, 1), (3, 1), (4, 1), (5, 1), (6, 1), (7, 1), (8, 1), (9, 1), (10, 1)] = true := by kernel_rfl
theorem sz134 : szB Try.prog 134 false 1 = true := by kernel_rfl
theorem by134 : byB Try.prog 134 8 = true := by kernel_rfl
theorem zr134 : zrB Try.prog 134 (.pointer none) := by unfold zrB; kernel_rfl
end Go.Proofs.Ytgolkffigoabhaa.Am
