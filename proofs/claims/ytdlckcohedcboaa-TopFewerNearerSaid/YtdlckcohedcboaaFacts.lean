/- Closed facts of the program's types and functions. Conditions: none. -/
import Derived.Test.YtdlckcohedcboaaRows
import Derived.Test.YtdlckcohedcboaaAmD
import Derived.ChangeKeysEq
set_option linter.unusedVariables false
set_option linter.unusedSimpArgs false
namespace Go.Proofs.Ytdlckcohedcboaa.Am
open Go
theorem mixed : Try.prog.follows .mixedOrders = true := by kernel_rfl
theorem en2 : enB Try.prog 2 = true := by kernel_rfl
theorem en3 : enB Try.prog 3 = true := by kernel_rfl
theorem en4 : enB Try.prog 4 = true := by kernel_rfl
theorem en5 : enB Try.prog 5 = true := by kernel_rfl
theorem en6 : enB Try.prog 6 = true := by kernel_rfl
theorem en7 : enB Try.prog 7 = true := by kernel_rfl
theorem en8 : enB Try.prog 8 = true := by kernel_rfl
theorem en9 : enB Try.prog 9 = true := by kernel_rfl
theorem en10 : enB Try.prog 10 = true := by kernel_rfl
theorem en11 : enB Try.prog 11 = true := by kernel_rfl
theorem en12 : enB Try.prog 12 = true := by kernel_rfl
theorem en13 : enB Try.prog 13 = true := by kernel_rfl
theorem en14 : enB Try.prog 14 = true := by kernel_rfl
theorem en15 : enB Try.prog 15 = true := by kernel_rfl
theorem en16 : enB Try.prog 16 = true := by kernel_rfl
theorem en17 : enB Try.prog 17 = true := by kernel_rfl
theorem en18 : enB Try.prog 18 = true := by kernel_rfl
theorem en19 : enB Try.prog 19 = true := by kernel_rfl
theorem en20 : enB Try.prog 20 = true := by kernel_rfl
theorem en21 : enB Try.prog 21 = true := by kernel_rfl
theorem en22 : enB Try.prog 22 = true := by kernel_rfl
theorem en23 : enB Try.prog 23 = true := by kernel_rfl
theorem en24 : enB Try.prog 24 = true := by kernel_rfl
theorem en25 : enB Try.prog 25 = true := by kernel_rfl
theorem en26 : enB Try.prog 26 = true := by kernel_rfl
theorem en27 : enB Try.prog 27 = true := by kernel_rfl
theorem en28 : enB Try.prog 28 = true := by kernel_rfl
theorem en29 : enB Try.prog 29 = true := by kernel_rfl
theorem en30 : enB Try.prog 30 = true := by kernel_rfl
theorem en31 : enB Try.prog 31 = true := by kernel_rfl
theorem en32 : enB Try.prog 32 = true := by kernel_rfl
theorem en33 : enB Try.prog 33 = true := by kernel_rfl
theorem en34 : enB Try.prog 34 = true := by kernel_rfl
theorem en35 : enB Try.prog 35 = true := by kernel_rfl
theorem en36 : enB Try.prog 36 = true := by kernel_rfl
theorem en37 : enB Try.prog 37 = true := by kernel_rfl
theorem en38 : enB Try.prog 38 = true := by kernel_rfl
theorem en39 : enB Try.prog 39 = true := by kernel_rfl
theorem en40 : enB Try.prog 40 = true := by kernel_rfl
theorem en41 : enB Try.prog 41 = true := by kernel_rfl
theorem en42 : enB Try.prog 42 = true := by kernel_rfl
theorem en43 : enB Try.prog 43 = true := by kernel_rfl
theorem en44 : enB Try.prog 44 = true := by kernel_rfl
theorem en45 : enB Try.prog 45 = true := by kernel_rfl
theorem en46 : enB Try.prog 46 = true := by kernel_rfl
theorem en47 : enB Try.prog 47 = true := by kernel_rfl
theorem en48 : enB Try.prog 48 = true := by kernel_rfl
theorem en49 : enB Try.prog 49 = true := by kernel_rfl
theorem en50 : enB Try.prog 50 = true := by kernel_rfl
theorem en51 : enB Try.prog 51 = true := by kernel_rfl
theorem en52 : enB Try.prog 52 = true := by kernel_rfl
theorem en53 : enB Try.prog 53 = true := by kernel_rfl
theorem en54 : enB Try.prog 54 = true := by kernel_rfl
theorem en55 : enB Try.prog 55 = true := by kernel_rfl
theorem en56 : enB Try.prog 56 = true := by kernel_rfl
theorem en57 : enB Try.prog 57 = true := by kernel_rfl
theorem en58 : enB Try.prog 58 = true := by kernel_rfl
theorem en59 : enB Try.prog 59 = true := by kernel_rfl
theorem en60 : enB Try.prog 60 = true := by kernel_rfl
theorem en61 : enB Try.prog 61 = true := by kernel_rfl
theorem en62 : enB Try.prog 62 = true := by kernel_rfl
theorem en63 : enB Try.prog 63 = true := by kernel_rfl
theorem en64 : enB Try.prog 64 = true := by kernel_rfl
theorem en65 : enB Try.prog 65 = true := by kernel_rfl
theorem en66 : enB Try.prog 66 = true := by kernel_rfl
theorem en67 : enB Try.prog 67 = true := by kernel_rfl
theorem en68 : enB Try.prog 68 = true := by kernel_rfl
theorem en69 : enB Try.prog 69 = true := by kernel_rfl
theorem en70 : enB Try.prog 70 = true := by kernel_rfl
theorem en71 : enB Try.prog 71 = true := by kernel_rfl
theorem en72 : enB Try.prog 72 = true := by kernel_rfl
theorem sz2 : szB Try.prog 2 false 1 = true := by kernel_rfl
theorem by2 : byB Try.prog 2 8 = true := by kernel_rfl
theorem zr2 : zrB Try.prog 2 (.int .i64 0) := by unfold zrB; kernel_rfl
theorem int2 : intB Try.prog 2 .i64 = true := by kernel_rfl
theorem sz3 : szB Try.prog 3 false 1 = true := by kernel_rfl
theorem by3 : byB Try.prog 3 8 = true := by kernel_rfl
theorem zr3 : zrB Try.prog 3 (.int .i64 0) := by unfold zrB; kernel_rfl
theorem int3 : intB Try.prog 3 .i64 = true := by kernel_rfl
theorem sz4 : szB Try.prog 4 false 1 = true := by kernel_rfl
theorem by4 : byB Try.prog 4 1 = true := by kernel_rfl
theorem zr4 : zrB Try.prog 4 (.bool false) := by unfold zrB; kernel_rfl
theorem sz5 : szB Try.prog 5 false 1 = true := by kernel_rfl
theorem by5 : byB Try.prog 5 1 = true := by kernel_rfl
theorem zr5 : zrB Try.prog 5 (.int .u8 0) := by unfold zrB; kernel_rfl
theorem int5 : intB Try.prog 5 .u8 = true := by kernel_rfl
theorem sz6 : szB Try.prog 6 false 1 = true := by kernel_rfl
theorem by6 : byB Try.prog 6 1 = true := by kernel_rfl
theorem zr6 : zrB Try.prog 6 (.int .u8 0) := by unfold zrB; kernel_rfl
theorem int6 : intB Try.prog 6 .u8 = true := by kernel_rfl
theorem sz7 : szB Try.prog 7 true 4 = true := by kernel_rfl
theorem by7 : byB Try.prog 7 24 = true := by kernel_rfl
theorem zr7 : zrB Try.prog 7 (.agg #[.int .i64 0, .int .i64 0, .bool false, .int .u8 0]) := by unfold zrB; kernel_rfl
theorem fld7_0 : fldB Try.prog 7 0 0 = true := by kernel_rfl
theorem fd7_0 : (match Try.prog.underlying 7 with | some (.struct fs) => (fs[0]?).map (fun fd => (fd.offset, fd.type)) | _ => none) = some (0, 2) := by kernel_rfl
theorem fld7_1 : fldB Try.prog 7 1 1 = true := by kernel_rfl
theorem fd7_1 : (match Try.prog.underlying 7 with | some (.struct fs) => (fs[1]?).map (fun fd => (fd.offset, fd.type)) | _ => none) = some (1, 3) := by kernel_rfl
theorem fld7_2 : fldB Try.prog 7 2 2 = true := by kernel_rfl
theorem fd7_2 : (match Try.prog.underlying 7 with | some (.struct fs) => (fs[2]?).map (fun fd => (fd.offset, fd.type)) | _ => none) = some (2, 4) := by kernel_rfl
theorem fld7_3 : fldB Try.prog 7 3 3 = true := by kernel_rfl
theorem fd7_3 : (match Try.prog.underlying 7 with | some (.struct fs) => (fs[3]?).map (fun fd => (fd.offset, fd.type)) | _ => none) = some (3, 6) := by kernel_rfl
theorem pl7 : plB Try.prog 7 [(0, 1), (1, 1), (2, 1), (3, 1)] = true := by kernel_rfl
theorem sz8 : szB Try.prog 8 true 4 = true := by kernel_rfl
theorem by8 : byB Try.prog 8 24 = true := by kernel_rfl
theorem zr8 : zrB Try.prog 8 (.agg #[.int .i64 0, .int .i64 0, .bool false, .int .u8 0]) := by unfold zrB; kernel_rfl
theorem fld8_0 : fldB Try.prog 8 0 0 = true := by kernel_rfl
theorem fd8_0 : (match Try.prog.underlying 8 with | some (.struct fs) => (fs[0]?).map (fun fd => (fd.offset, fd.type)) | _ => none) = some (0, 2) := by kernel_rfl
theorem fld8_1 : fldB Try.prog 8 1 1 = true := by kernel_rfl
theorem fd8_1 : (match Try.prog.underlying 8 with | some (.struct fs) => (fs[1]?).map (fun fd => (fd.offset, fd.type)) | _ => none) = some (1, 3) := by kernel_rfl
theorem fld8_2 : fldB Try.prog 8 2 2 = true := by kernel_rfl
theorem fd8_2 : (match Try.prog.underlying 8 with | some (.struct fs) => (fs[2]?).map (fun fd => (fd.offset, fd.type)) | _ => none) = some (2, 4) := by kernel_rfl
theorem fld8_3 : fldB Try.prog 8 3 3 = true := by kernel_rfl
theorem fd8_3 : (match Try.prog.underlying 8 with | some (.struct fs) => (fs[3]?).map (fun fd => (fd.offset, fd.type)) | _ => none) = some (3, 6) := by kernel_rfl
theorem pl8 : plB Try.prog 8 [(0, 1), (1, 1), (2, 1), (3, 1)] = true := by kernel_rfl
theorem sz9 : szB Try.prog 9 false 1 = true := by kernel_rfl
theorem by9 : byB Try.prog 9 16 = true := by kernel_rfl
theorem zr9 : zrB Try.prog 9 (.string ⟨#[]⟩) := by unfold zrB; kernel_rfl
theorem str9 : isStr Try.prog 9 = true := by kernel_rfl
theorem sz10 : szB Try.prog 10 false 1 = true := by kernel_rfl
theorem by10 : byB Try.prog 10 16 = true := by kernel_rfl
theorem zr10 : zrB Try.prog 10 (.string ⟨#[]⟩) := by unfold zrB; kernel_rfl
theorem str10 : isStr Try.prog 10 = true := by kernel_rfl
theorem sz11 : szB Try.prog 11 false 1 = true := by kernel_rfl
theorem by11 : byB Try.prog 11 16 = true := by kernel_rfl
theorem zr11 : zrB Try.prog 11 (.string ⟨#[]⟩) := by unfold zrB; kernel_rfl
theorem str11 : isStr Try.prog 11 = true := by kernel_rfl
theorem sz12 : szB Try.prog 12 false 1 = true := by kernel_rfl
theorem by12 : byB Try.prog 12 8 = true := by kernel_rfl
theorem zr12 : zrB Try.prog 12 (.int .u64 0) := by unfold zrB; kernel_rfl
theorem int12 : intB Try.prog 12 .u64 = true := by kernel_rfl
theorem sz13 : szB Try.prog 13 true 2 = true := by kernel_rfl
theorem by13 : byB Try.prog 13 24 = true := by kernel_rfl
theorem zr13 : zrB Try.prog 13 (.agg #[.string ⟨#[]⟩, .int .u64 0]) := by unfold zrB; kernel_rfl
theorem fld13_0 : fldB Try.prog 13 0 0 = true := by kernel_rfl
theorem fd13_0 : (match Try.prog.underlying 13 with | some (.struct fs) => (fs[0]?).map (fun fd => (fd.offset, fd.type)) | _ => none) = some (0, 9) := by kernel_rfl
theorem fld13_1 : fldB Try.prog 13 1 1 = true := by kernel_rfl
theorem fd13_1 : (match Try.prog.underlying 13 with | some (.struct fs) => (fs[1]?).map (fun fd => (fd.offset, fd.type)) | _ => none) = some (1, 12) := by kernel_rfl
theorem pl13 : plB Try.prog 13 [(0, 1), (1, 1)] = true := by kernel_rfl
theorem sz14 : szB Try.prog 14 true 2 = true := by kernel_rfl
theorem by14 : byB Try.prog 14 24 = true := by kernel_rfl
theorem zr14 : zrB Try.prog 14 (.agg #[.string ⟨#[]⟩, .int .u64 0]) := by unfold zrB; kernel_rfl
theorem fld14_0 : fldB Try.prog 14 0 0 = true := by kernel_rfl
theorem fd14_0 : (match Try.prog.underlying 14 with | some (.struct fs) => (fs[0]?).map (fun fd => (fd.offset, fd.type)) | _ => none) = some (0, 9) := by kernel_rfl
theorem fld14_1 : fldB Try.prog 14 1 1 = true := by kernel_rfl
theorem fd14_1 : (match Try.prog.underlying 14 with | some (.struct fs) => (fs[1]?).map (fun fd => (fd.offset, fd.type)) | _ => none) = some (1, 12) := by kernel_rfl
theorem pl14 : plB Try.prog 14 [(0, 1), (1, 1)] = true := by kernel_rfl
theorem sz15 : szB Try.prog 15 false 1 = true := by kernel_rfl
theorem by15 : byB Try.prog 15 8 = true := by kernel_rfl
theorem zr15 : zrB Try.prog 15 (.pointer none) := by unfold zrB; kernel_rfl
theorem sz16 : szB Try.prog 16 false 1 = true := by kernel_rfl
theorem by16 : byB Try.prog 16 8 = true := by kernel_rfl
theorem zr16 : zrB Try.prog 16 (.pointer none) := by unfold zrB; kernel_rfl
theorem sz17 : szB Try.prog 17 false 1 = true := by kernel_rfl
theorem by17 : byB Try.prog 17 8 = true := by kernel_rfl
theorem zr17 : zrB Try.prog 17 (.pointer none) := by unfold zrB; kernel_rfl
theorem sz18 : szB Try.prog 18 true 1 = true := by kernel_rfl
theorem by18 : byB Try.prog 18 8 = true := by kernel_rfl
theorem zr18 : zrB Try.prog 18 (.agg #[.pointer none]) := by unfold zrB; kernel_rfl
theorem fld18_0 : fldB Try.prog 18 0 0 = true := by kernel_rfl
theorem fd18_0 : (match Try.prog.underlying 18 with | some (.struct fs) => (fs[0]?).map (fun fd => (fd.offset, fd.type)) | _ => none) = some (0, 17) := by kernel_rfl
theorem pl18 : plB Try.prog 18 [(0, 1)] = true := by kernel_rfl
theorem sz19 : szB Try.prog 19 true 1 = true := by kernel_rfl
theorem by19 : byB Try.prog 19 8 = true := by kernel_rfl
theorem zr19 : zrB Try.prog 19 (.agg #[.pointer none]) := by unfold zrB; kernel_rfl
theorem fld19_0 : fldB Try.prog 19 0 0 = true := by kernel_rfl
theorem fd19_0 : (match Try.prog.underlying 19 with | some (.struct fs) => (fs[0]?).map (fun fd => (fd.offset, fd.type)) | _ => none) = some (0, 17) := by kernel_rfl
theorem pl19 : plB Try.prog 19 [(0, 1)] = true := by kernel_rfl
theorem sz21 : szB Try.prog 21 false 1 = true := by kernel_rfl
theorem by21 : byB Try.prog 21 4 = true := by kernel_rfl
theorem zr21 : zrB Try.prog 21 (.int .i32 0) := by unfold zrB; kernel_rfl
theorem int21 : intB Try.prog 21 .i32 = true := by kernel_rfl
theorem sz22 : szB Try.prog 22 false 1 = true := by kernel_rfl
theorem by22 : byB Try.prog 22 24 = true := by kernel_rfl
theorem zr22 : zrB Try.prog 22 (.slice none 0 0) := by unfold zrB; kernel_rfl
theorem sl22 : slB Try.prog 22 52 2 = true := by kernel_rfl
theorem isl22 : isSl Try.prog 22 = true := by kernel_rfl
theorem sz23 : szB Try.prog 23 true 4 = true := by kernel_rfl
theorem by23 : byB Try.prog 23 32 = true := by kernel_rfl
theorem zr23 : zrB Try.prog 23 (.agg #[.int .i64 0, .int .i64 0, .int .i64 0, .int .i64 0]) := by unfold zrB; kernel_rfl
theorem fld23_0 : fldB Try.prog 23 0 0 = true := by kernel_rfl
theorem fd23_0 : (match Try.prog.underlying 23 with | some (.struct fs) => (fs[0]?).map (fun fd => (fd.offset, fd.type)) | _ => none) = some (0, 3) := by kernel_rfl
theorem fld23_1 : fldB Try.prog 23 1 1 = true := by kernel_rfl
theorem fd23_1 : (match Try.prog.underlying 23 with | some (.struct fs) => (fs[1]?).map (fun fd => (fd.offset, fd.type)) | _ => none) = some (1, 3) := by kernel_rfl
theorem fld23_2 : fldB Try.prog 23 2 2 = true := by kernel_rfl
theorem fd23_2 : (match Try.prog.underlying 23 with | some (.struct fs) => (fs[2]?).map (fun fd => (fd.offset, fd.type)) | _ => none) = some (2, 3) := by kernel_rfl
theorem fld23_3 : fldB Try.prog 23 3 3 = true := by kernel_rfl
theorem fd23_3 : (match Try.prog.underlying 23 with | some (.struct fs) => (fs[3]?).map (fun fd => (fd.offset, fd.type)) | _ => none) = some (3, 3) := by kernel_rfl
theorem pl23 : plB Try.prog 23 [(0, 1), (1, 1), (2, 1), (3, 1)] = true := by kernel_rfl
theorem eqi23 : EqI Try.prog 23 4 := by
  intro xs ys hx hy w
  match xs, ys, hx, hy with
  | [a0, a1, a2, a3], [b0, b1, b2, b3], _, _ =>
    refine ⟨fun x y => run_eqGuard_agg w .eql 23 x y _ _ (by kernel_rfl), fun x y => run_eqGuard_agg w .neq 23 x y _ _ (by kernel_rfl), ?_⟩
    have hf : (Try.prog.fieldsOf 23).toList = [⟨ "Wedge", 3, 0, false, "", "", 0⟩, ⟨ "Metal", 3, 1, false, "", "", 8⟩, ⟨ "Skips", 3, 2, false, "", "", 16⟩, ⟨ "Thick", 3, 3, false, "", "", 24⟩] := by kernel_rfl
    rw [show (10000 : Nat) = 9998 + 1 + 1 from rfl, run_equalIn_struct w (9998 + 1) 23 _ _ (by kernel_rfl) (by kernel_rfl), hf]
    have u3 := Try.underlying3; 
    simp [Op.eqFields, part, isAgg, run_underlying u3, iW, run_equalIn_int, u3, Result.andThen]
    (repeat' split) <;> simp_all
theorem sz24 : szB Try.prog 24 true 4 = true := by kernel_rfl
theorem by24 : byB Try.prog 24 32 = true := by kernel_rfl
theorem zr24 : zrB Try.prog 24 (.agg #[.int .i64 0, .int .i64 0, .int .i64 0, .int .i64 0]) := by unfold zrB; kernel_rfl
theorem fld24_0 : fldB Try.prog 24 0 0 = true := by kernel_rfl
theorem fd24_0 : (match Try.prog.underlying 24 with | some (.struct fs) => (fs[0]?).map (fun fd => (fd.offset, fd.type)) | _ => none) = some (0, 3) := by kernel_rfl
theorem fld24_1 : fldB Try.prog 24 1 1 = true := by kernel_rfl
theorem fd24_1 : (match Try.prog.underlying 24 with | some (.struct fs) => (fs[1]?).map (fun fd => (fd.offset, fd.type)) | _ => none) = some (1, 3) := by kernel_rfl
theorem fld24_2 : fldB Try.prog 24 2 2 = true := by kernel_rfl
theorem fd24_2 : (match Try.prog.underlying 24 with | some (.struct fs) => (fs[2]?).map (fun fd => (fd.offset, fd.type)) | _ => none) = some (2, 3) := by kernel_rfl
theorem fld24_3 : fldB Try.prog 24 3 3 = true := by kernel_rfl
theorem fd24_3 : (match Try.prog.underlying 24 with | some (.struct fs) => (fs[3]?).map (fun fd => (fd.offset, fd.type)) | _ => none) = some (3, 3) := by kernel_rfl
theorem pl24 : plB Try.prog 24 [(0, 1), (1, 1), (2, 1), (3, 1)] = true := by kernel_rfl
theorem eqi24 : EqI Try.prog 24 4 := by
  intro xs ys hx hy w
  match xs, ys, hx, hy with
  | [a0, a1, a2, a3], [b0, b1, b2, b3], _, _ =>
    refine ⟨fun x y => run_eqGuard_agg w .eql 24 x y _ _ (by kernel_rfl), fun x y => run_eqGuard_agg w .neq 24 x y _ _ (by kernel_rfl), ?_⟩
    have hf : (Try.prog.fieldsOf 24).toList = [⟨ "Wedge", 3, 0, false, "", "", 0⟩, ⟨ "Metal", 3, 1, false, "", "", 8⟩, ⟨ "Skips", 3, 2, false, "", "", 16⟩, ⟨ "Thick", 3, 3, false, "", "", 24⟩] := by kernel_rfl
    rw [show (10000 : Nat) = 9998 + 1 + 1 from rfl, run_equalIn_struct w (9998 + 1) 24 _ _ (by kernel_rfl) (by kernel_rfl), hf]
    have u3 := Try.underlying3; 
    simp [Op.eqFields, part, isAgg, run_underlying u3, iW, run_equalIn_int, u3, Result.andThen]
    (repeat' split) <;> simp_all
theorem sz25 : szB Try.prog 25 true 6 = true := by kernel_rfl
theorem by25 : byB Try.prog 25 64 = true := by kernel_rfl
theorem zr25 : zrB Try.prog 25 (.agg #[.slice none 0 0, .int .i64 0, .int .i64 0, .int .i64 0, .int .i64 0, .int .i64 0]) := by unfold zrB; kernel_rfl
theorem fld25_0 : fldB Try.prog 25 0 0 = true := by kernel_rfl
theorem fd25_0 : (match Try.prog.underlying 25 with | some (.struct fs) => (fs[0]?).map (fun fd => (fd.offset, fd.type)) | _ => none) = some (0, 22) := by kernel_rfl
theorem fld25_1 : fldB Try.prog 25 1 1 = true := by kernel_rfl
theorem fd25_1 : (match Try.prog.underlying 25 with | some (.struct fs) => (fs[1]?).map (fun fd => (fd.offset, fd.type)) | _ => none) = some (1, 24) := by kernel_rfl
theorem fld25_2 : fldB Try.prog 25 2 5 = true := by kernel_rfl
theorem fd25_2 : (match Try.prog.underlying 25 with | some (.struct fs) => (fs[2]?).map (fun fd => (fd.offset, fd.type)) | _ => none) = some (5, 3) := by kernel_rfl
theorem pl25 : plB Try.prog 25 [(0, 1), (1, 4), (5, 1)] = true := by kernel_rfl
theorem sz26 : szB Try.prog 26 true 6 = true := by kernel_rfl
theorem by26 : byB Try.prog 26 64 = true := by kernel_rfl
theorem zr26 : zrB Try.prog 26 (.agg #[.slice none 0 0, .int .i64 0, .int .i64 0, .int .i64 0, .int .i64 0, .int .i64 0]) := by unfold zrB; kernel_rfl
theorem fld26_0 : fldB Try.prog 26 0 0 = true := by kernel_rfl
theorem fd26_0 : (match Try.prog.underlying 26 with | some (.struct fs) => (fs[0]?).map (fun fd => (fd.offset, fd.type)) | _ => none) = some (0, 22) := by kernel_rfl
theorem fld26_1 : fldB Try.prog 26 1 1 = true := by kernel_rfl
theorem fd26_1 : (match Try.prog.underlying 26 with | some (.struct fs) => (fs[1]?).map (fun fd => (fd.offset, fd.type)) | _ => none) = some (1, 24) := by kernel_rfl
theorem fld26_2 : fldB Try.prog 26 2 5 = true := by kernel_rfl
theorem fd26_2 : (match Try.prog.underlying 26 with | some (.struct fs) => (fs[2]?).map (fun fd => (fd.offset, fd.type)) | _ => none) = some (5, 3) := by kernel_rfl
theorem pl26 : plB Try.prog 26 [(0, 1), (1, 4), (5, 1)] = true := by kernel_rfl
theorem sz27 : szB Try.prog 27 false 1 = true := by kernel_rfl
theorem by27 : byB Try.prog 27 24 = true := by kernel_rfl
theorem zr27 : zrB Try.prog 27 (.slice none 0 0) := by unfold zrB; kernel_rfl
theorem sl27 : slB Try.prog 27 3 1 = true := by kernel_rfl
theorem isl27 : isSl Try.prog 27 = true := by kernel_rfl
theorem sz28 : szB Try.prog 28 true 2 = true := by kernel_rfl
theorem by28 : byB Try.prog 28 32 = true := by kernel_rfl
theorem zr28 : zrB Try.prog 28 (.agg #[.int .i64 0, .slice none 0 0]) := by unfold zrB; kernel_rfl
theorem fld28_0 : fldB Try.prog 28 0 0 = true := by kernel_rfl
theorem fd28_0 : (match Try.prog.underlying 28 with | some (.struct fs) => (fs[0]?).map (fun fd => (fd.offset, fd.type)) | _ => none) = some (0, 3) := by kernel_rfl
theorem fld28_1 : fldB Try.prog 28 1 1 = true := by kernel_rfl
theorem fd28_1 : (match Try.prog.underlying 28 with | some (.struct fs) => (fs[1]?).map (fun fd => (fd.offset, fd.type)) | _ => none) = some (1, 27) := by kernel_rfl
theorem pl28 : plB Try.prog 28 [(0, 1), (1, 1)] = true := by kernel_rfl
theorem sz29 : szB Try.prog 29 true 2 = true := by kernel_rfl
theorem by29 : byB Try.prog 29 32 = true := by kernel_rfl
theorem zr29 : zrB Try.prog 29 (.agg #[.int .i64 0, .slice none 0 0]) := by unfold zrB; kernel_rfl
theorem fld29_0 : fldB Try.prog 29 0 0 = true := by kernel_rfl
theorem fd29_0 : (match Try.prog.underlying 29 with | some (.struct fs) => (fs[0]?).map (fun fd => (fd.offset, fd.type)) | _ => none) = some (0, 3) := by kernel_rfl
theorem fld29_1 : fldB Try.prog 29 1 1 = true := by kernel_rfl
theorem fd29_1 : (match Try.prog.underlying 29 with | some (.struct fs) => (fs[1]?).map (fun fd => (fd.offset, fd.type)) | _ => none) = some (1, 27) := by kernel_rfl
theorem pl29 : plB Try.prog 29 [(0, 1), (1, 1)] = true := by kernel_rfl
theorem sz30 : szB Try.prog 30 true 3 = true := by kernel_rfl
theorem by30 : byB Try.prog 30 40 = true := by kernel_rfl
theorem zr30 : zrB Try.prog 30 (.agg #[.slice none 0 0, .int .i64 0, .int .i64 0]) := by unfold zrB; kernel_rfl
theorem fld30_0 : fldB Try.prog 30 0 0 = true := by kernel_rfl
theorem fd30_0 : (match Try.prog.underlying 30 with | some (.struct fs) => (fs[0]?).map (fun fd => (fd.offset, fd.type)) | _ => none) = some (0, 27) := by kernel_rfl
theorem fld30_1 : fldB Try.prog 30 1 1 = true := by kernel_rfl
theorem fd30_1 : (match Try.prog.underlying 30 with | some (.struct fs) => (fs[1]?).map (fun fd => (fd.offset, fd.type)) | _ => none) = some (1, 3) := by kernel_rfl
theorem fld30_2 : fldB Try.prog 30 2 2 = true := by kernel_rfl
theorem fd30_2 : (match Try.prog.underlying 30 with | some (.struct fs) => (fs[2]?).map (fun fd => (fd.offset, fd.type)) | _ => none) = some (2, 3) := by kernel_rfl
theorem pl30 : plB Try.prog 30 [(0, 1), (1, 1), (2, 1)] = true := by kernel_rfl
theorem sz31 : szB Try.prog 31 true 3 = true := by kernel_rfl
theorem by31 : byB Try.prog 31 40 = true := by kernel_rfl
theorem zr31 : zrB Try.prog 31 (.agg #[.slice none 0 0, .int .i64 0, .int .i64 0]) := by unfold zrB; kernel_rfl
theorem fld31_0 : fldB Try.prog 31 0 0 = true := by kernel_rfl
theorem fd31_0 : (match Try.prog.underlying 31 with | some (.struct fs) => (fs[0]?).map (fun fd => (fd.offset, fd.type)) | _ => none) = some (0, 27) := by kernel_rfl
theorem fld31_1 : fldB Try.prog 31 1 1 = true := by kernel_rfl
theorem fd31_1 : (match Try.prog.underlying 31 with | some (.struct fs) => (fs[1]?).map (fun fd => (fd.offset, fd.type)) | _ => none) = some (1, 3) := by kernel_rfl
theorem fld31_2 : fldB Try.prog 31 2 2 = true := by kernel_rfl
theorem fd31_2 : (match Try.prog.underlying 31 with | some (.struct fs) => (fs[2]?).map (fun fd => (fd.offset, fd.type)) | _ => none) = some (2, 3) := by kernel_rfl
theorem pl31 : plB Try.prog 31 [(0, 1), (1, 1), (2, 1)] = true := by kernel_rfl
theorem sz33 : szB Try.prog 33 true 2 = true := by kernel_rfl
theorem by33 : byB Try.prog 33 16 = true := by kernel_rfl
theorem zr33 : zrB Try.prog 33 (.agg #[.int .i64 0, .int .i64 0]) := by unfold zrB; kernel_rfl
theorem fld33_0 : fldB Try.prog 33 0 0 = true := by kernel_rfl
theorem fd33_0 : (match Try.prog.underlying 33 with | some (.struct fs) => (fs[0]?).map (fun fd => (fd.offset, fd.type)) | _ => none) = some (0, 3) := by kernel_rfl
theorem fld33_1 : fldB Try.prog 33 1 1 = true := by kernel_rfl
theorem fd33_1 : (match Try.prog.underlying 33 with | some (.struct fs) => (fs[1]?).map (fun fd => (fd.offset, fd.type)) | _ => none) = some (1, 3) := by kernel_rfl
theorem pl33 : plB Try.prog 33 [(0, 1), (1, 1)] = true := by kernel_rfl
theorem eqi33 : EqI Try.prog 33 2 := by
  intro xs ys hx hy w
  match xs, ys, hx, hy with
  | [a0, a1], [b0, b1], _, _ =>
    refine ⟨fun x y => run_eqGuard_agg w .eql 33 x y _ _ (by kernel_rfl), fun x y => run_eqGuard_agg w .neq 33 x y _ _ (by kernel_rfl), ?_⟩
    have hf : (Try.prog.fieldsOf 33).toList = [⟨ "Lo", 3, 0, false, "", "", 0⟩, ⟨ "Hi", 3, 1, false, "", "", 8⟩] := by kernel_rfl
    rw [show (10000 : Nat) = 9998 + 1 + 1 from rfl, run_equalIn_struct w (9998 + 1) 33 _ _ (by kernel_rfl) (by kernel_rfl), hf]
    have u3 := Try.underlying3; 
    simp [Op.eqFields, part, isAgg, run_underlying u3, iW, run_equalIn_int, u3, Result.andThen]
    (repeat' split) <;> simp_all
theorem sz34 : szB Try.prog 34 true 2 = true := by kernel_rfl
theorem by34 : byB Try.prog 34 16 = true := by kernel_rfl
theorem zr34 : zrB Try.prog 34 (.agg #[.int .i64 0, .int .i64 0]) := by unfold zrB; kernel_rfl
theorem fld34_0 : fldB Try.prog 34 0 0 = true := by kernel_rfl
theorem fd34_0 : (match Try.prog.underlying 34 with | some (.struct fs) => (fs[0]?).map (fun fd => (fd.offset, fd.type)) | _ => none) = some (0, 3) := by kernel_rfl
theorem fld34_1 : fldB Try.prog 34 1 1 = true := by kernel_rfl
theorem fd34_1 : (match Try.prog.underlying 34 with | some (.struct fs) => (fs[1]?).map (fun fd => (fd.offset, fd.type)) | _ => none) = some (1, 3) := by kernel_rfl
theorem pl34 : plB Try.prog 34 [(0, 1), (1, 1)] = true := by kernel_rfl
theorem eqi34 : EqI Try.prog 34 2 := by
  intro xs ys hx hy w
  match xs, ys, hx, hy with
  | [a0, a1], [b0, b1], _, _ =>
    refine ⟨fun x y => run_eqGuard_agg w .eql 34 x y _ _ (by kernel_rfl), fun x y => run_eqGuard_agg w .neq 34 x y _ _ (by kernel_rfl), ?_⟩
    have hf : (Try.prog.fieldsOf 34).toList = [⟨ "Lo", 3, 0, false, "", "", 0⟩, ⟨ "Hi", 3, 1, false, "", "", 8⟩] := by kernel_rfl
    rw [show (10000 : Nat) = 9998 + 1 + 1 from rfl, run_equalIn_struct w (9998 + 1) 34 _ _ (by kernel_rfl) (by kernel_rfl), hf]
    have u3 := Try.underlying3; 
    simp [Op.eqFields, part, isAgg, run_underlying u3, iW, run_equalIn_int, u3, Result.andThen]
    (repeat' split) <;> simp_all
theorem sz35 : szB Try.prog 35 false 1 = true := by kernel_rfl
theorem by35 : byB Try.prog 35 8 = true := by kernel_rfl
theorem zr35 : zrB Try.prog 35 (.int .i64 0) := by unfold zrB; kernel_rfl
theorem int35 : intB Try.prog 35 .i64 = true := by kernel_rfl
theorem sz51 : szB Try.prog 51 true 2 = true := by kernel_rfl
theorem by51 : byB Try.prog 51 16 = true := by kernel_rfl
theorem zr51 : zrB Try.prog 51 (.agg #[.int .i64 0, .int .i64 0]) := by unfold zrB; kernel_rfl
theorem fld51_0 : fldB Try.prog 51 0 0 = true := by kernel_rfl
theorem fd51_0 : (match Try.prog.underlying 51 with | some (.struct fs) => (fs[0]?).map (fun fd => (fd.offset, fd.type)) | _ => none) = some (0, 3) := by kernel_rfl
theorem fld51_1 : fldB Try.prog 51 1 1 = true := by kernel_rfl
theorem fd51_1 : (match Try.prog.underlying 51 with | some (.struct fs) => (fs[1]?).map (fun fd => (fd.offset, fd.type)) | _ => none) = some (1, 3) := by kernel_rfl
theorem pl51 : plB Try.prog 51 [(0, 1), (1, 1)] = true := by kernel_rfl
theorem eqi51 : EqI Try.prog 51 2 := by
  intro xs ys hx hy w
  match xs, ys, hx, hy with
  | [a0, a1], [b0, b1], _, _ =>
    refine ⟨fun x y => run_eqGuard_agg w .eql 51 x y _ _ (by kernel_rfl), fun x y => run_eqGuard_agg w .neq 51 x y _ _ (by kernel_rfl), ?_⟩
    have hf : (Try.prog.fieldsOf 51).toList = [⟨ "X", 3, 0, false, "", "", 0⟩, ⟨ "Z", 3, 1, false, "", "", 8⟩] := by kernel_rfl
    rw [show (10000 : Nat) = 9998 + 1 + 1 from rfl, run_equalIn_struct w (9998 + 1) 51 _ _ (by kernel_rfl) (by kernel_rfl), hf]
    have u3 := Try.underlying3; 
    simp [Op.eqFields, part, isAgg, run_underlying u3, iW, run_equalIn_int, u3, Result.andThen]
    (repeat' split) <;> simp_all
theorem sz52 : szB Try.prog 52 true 2 = true := by kernel_rfl
theorem by52 : byB Try.prog 52 16 = true := by kernel_rfl
theorem zr52 : zrB Try.prog 52 (.agg #[.int .i64 0, .int .i64 0]) := by unfold zrB; kernel_rfl
theorem fld52_0 : fldB Try.prog 52 0 0 = true := by kernel_rfl
theorem fd52_0 : (match Try.prog.underlying 52 with | some (.struct fs) => (fs[0]?).map (fun fd => (fd.offset, fd.type)) | _ => none) = some (0, 3) := by kernel_rfl
theorem fld52_1 : fldB Try.prog 52 1 1 = true := by kernel_rfl
theorem fd52_1 : (match Try.prog.underlying 52 with | some (.struct fs) => (fs[1]?).map (fun fd => (fd.offset, fd.type)) | _ => none) = some (1, 3) := by kernel_rfl
theorem pl52 : plB Try.prog 52 [(0, 1), (1, 1)] = true := by kernel_rfl
theorem eqi52 : EqI Try.prog 52 2 := by
  intro xs ys hx hy w
  match xs, ys, hx, hy with
  | [a0, a1], [b0, b1], _, _ =>
    refine ⟨fun x y => run_eqGuard_agg w .eql 52 x y _ _ (by kernel_rfl), fun x y => run_eqGuard_agg w .neq 52 x y _ _ (by kernel_rfl), ?_⟩
    have hf : (Try.prog.fieldsOf 52).toList = [⟨ "X", 3, 0, false, "", "", 0⟩, ⟨ "Z", 3, 1, false, "", "", 8⟩] := by kernel_rfl
    rw [show (10000 : Nat) = 9998 + 1 + 1 from rfl, run_equalIn_struct w (9998 + 1) 52 _ _ (by kernel_rfl) (by kernel_rfl), hf]
    have u3 := Try.underlying3; 
    simp [Op.eqFields, part, isAgg, run_underlying u3, iW, run_equalIn_int, u3, Result.andThen]
    (repeat' split) <;> simp_all
theorem sz53 : szB Try.prog 53 true 8 = true := by kernel_rfl
theorem by53 : byB Try.prog 53 96 = true := by kernel_rfl
theorem zr53 : zrB Try.prog 53 (.agg #[.slice none 0 0, .int .i64 0, .int .i64 0, .int .i64 0, .int .i64 0, .int .i64 0, .int .i64 0, .slice none 0 0]) := by unfold zrB; kernel_rfl
theorem fld53_0 : fldB Try.prog 53 0 0 = true := by kernel_rfl
theorem fd53_0 : (match Try.prog.underlying 53 with | some (.struct fs) => (fs[0]?).map (fun fd => (fd.offset, fd.type)) | _ => none) = some (0, 26) := by kernel_rfl
theorem fld53_1 : fldB Try.prog 53 1 6 = true := by kernel_rfl
theorem fd53_1 : (match Try.prog.underlying 53 with | some (.struct fs) => (fs[1]?).map (fun fd => (fd.offset, fd.type)) | _ => none) = some (6, 29) := by kernel_rfl
theorem pl53 : plB Try.prog 53 [(0, 6), (6, 2)] = true := by kernel_rfl
theorem sz54 : szB Try.prog 54 true 8 = true := by kernel_rfl
theorem by54 : byB Try.prog 54 96 = true := by kernel_rfl
theorem zr54 : zrB Try.prog 54 (.agg #[.slice none 0 0, .int .i64 0, .int .i64 0, .int .i64 0, .int .i64 0, .int .i64 0, .int .i64 0, .slice none 0 0]) := by unfold zrB; kernel_rfl
theorem fld54_0 : fldB Try.prog 54 0 0 = true := by kernel_rfl
theorem fd54_0 : (match Try.prog.underlying 54 with | some (.struct fs) => (fs[0]?).map (fun fd => (fd.offset, fd.type)) | _ => none) = some (0, 26) := by kernel_rfl
theorem fld54_1 : fldB Try.prog 54 1 6 = true := by kernel_rfl
theorem fd54_1 : (match Try.prog.underlying 54 with | some (.struct fs) => (fs[1]?).map (fun fd => (fd.offset, fd.type)) | _ => none) = some (6, 29) := by kernel_rfl
theorem pl54 : plB Try.prog 54 [(0, 6), (6, 2)] = true := by kernel_rfl
theorem sz75 : szB Try.prog 75 false 1 = true := by kernel_rfl
theorem by75 : byB Try.prog 75 24 = true := by kernel_rfl
theorem zr75 : zrB Try.prog 75 (.slice none 0 0) := by unfold zrB; kernel_rfl
theorem sl75 : slB Try.prog 75 35 1 = true := by kernel_rfl
theorem isl75 : isSl Try.prog 75 = true := by kernel_rfl
theorem sz80 : szB Try.prog 80 true 6 = true := by kernel_rfl
theorem by80 : byB Try.prog 80 48 = true := by kernel_rfl
theorem zr80 : zrB Try.prog 80 (.agg #[.int .i64 0, .int .i64 0, .int .i64 0, .int .i64 0, .int .i64 0, .int .i64 0]) := by unfold zrB; kernel_rfl
theorem fld80_0 : fldB Try.prog 80 0 0 = true := by kernel_rfl
theorem fd80_0 : (match Try.prog.underlying 80 with | some (.struct fs) => (fs[0]?).map (fun fd => (fd.offset, fd.type)) | _ => none) = some (0, 3) := by kernel_rfl
theorem fld80_1 : fldB Try.prog 80 1 1 = true := by kernel_rfl
theorem fd80_1 : (match Try.prog.underlying 80 with | some (.struct fs) => (fs[1]?).map (fun fd => (fd.offset, fd.type)) | _ => none) = some (1, 3) := by kernel_rfl
theorem fld80_2 : fldB Try.prog 80 2 2 = true := by kernel_rfl
theorem fd80_2 : (match Try.prog.underlying 80 with | some (.struct fs) => (fs[2]?).map (fun fd => (fd.offset, fd.type)) | _ => none) = some (2, 3) := by kernel_rfl
theorem fld80_3 : fldB Try.prog 80 3 3 = true := by kernel_rfl
theorem fd80_3 : (match Try.prog.underlying 80 with | some (.struct fs) => (fs[3]?).map (fun fd => (fd.offset, fd.type)) | _ => none) = some (3, 3) := by kernel_rfl
theorem fld80_4 : fldB Try.prog 80 4 4 = true := by kernel_rfl
theorem fd80_4 : (match Try.prog.underlying 80 with | some (.struct fs) => (fs[4]?).map (fun fd => (fd.offset, fd.type)) | _ => none) = some (4, 3) := by kernel_rfl
theorem fld80_5 : fldB Try.prog 80 5 5 = true := by kernel_rfl
theorem fd80_5 : (match Try.prog.underlying 80 with | some (.struct fs) => (fs[5]?).map (fun fd => (fd.offset, fd.type)) | _ => none) = some (5, 3) := by kernel_rfl
theorem pl80 : plB Try.prog 80 [(0, 1), (1, 1), (2, 1), (3, 1), (4, 1), (5, 1)] = true := by kernel_rfl
theorem eqi80 : EqI Try.prog 80 6 := by
  intro xs ys hx hy w
  match xs, ys, hx, hy with
  | [a0, a1, a2, a3, a4, a5], [b0, b1, b2, b3, b4, b5], _, _ =>
    refine ⟨fun x y => run_eqGuard_agg w .eql 80 x y _ _ (by kernel_rfl), fun x y => run_eqGuard_agg w .neq 80 x y _ _ (by kernel_rfl), ?_⟩
    have hf : (Try.prog.fieldsOf 80).toList = [⟨ "X1", 3, 0, false, "", "", 0⟩, ⟨ "H1", 3, 1, false, "", "", 8⟩, ⟨ "V1", 3, 2, false, "", "", 16⟩, ⟨ "X2", 3, 3, false, "", "", 24⟩, ⟨ "H2", 3, 4, false, "", "", 32⟩, ⟨ "V2", 3, 5, false, "", "", 40⟩] := by kernel_rfl
    rw [show (10000 : Nat) = 9998 + 1 + 1 from rfl, run_equalIn_struct w (9998 + 1) 80 _ _ (by kernel_rfl) (by kernel_rfl), hf]
    have u3 := Try.underlying3; 
    simp [Op.eqFields, part, isAgg, run_underlying u3, iW, run_equalIn_int, u3, Result.andThen]
    (repeat' split) <;> simp_all
theorem sz81 : szB Try.prog 81 true 6 = true := by kernel_rfl
theorem by81 : byB Try.prog 81 48 = true := by kernel_rfl
theorem zr81 : zrB Try.prog 81 (.agg #[.int .i64 0, .int .i64 0, .int .i64 0, .int .i64 0, .int .i64 0, .int .i64 0]) := by unfold zrB; kernel_rfl
theorem fld81_0 : fldB Try.prog 81 0 0 = true := by kernel_rfl
theorem fd81_0 : (match Try.prog.underlying 81 with | some (.struct fs) => (fs[0]?).map (fun fd => (fd.offset, fd.type)) | _ => none) = some (0, 3) := by kernel_rfl
theorem fld81_1 : fldB Try.prog 81 1 1 = true := by kernel_rfl
theorem fd81_1 : (match Try.prog.underlying 81 with | some (.struct fs) => (fs[1]?).map (fun fd => (fd.offset, fd.type)) | _ => none) = some (1, 3) := by kernel_rfl
theorem fld81_2 : fldB Try.prog 81 2 2 = true := by kernel_rfl
theorem fd81_2 : (match Try.prog.underlying 81 with | some (.struct fs) => (fs[2]?).map (fun fd => (fd.offset, fd.type)) | _ => none) = some (2, 3) := by kernel_rfl
theorem fld81_3 : fldB Try.prog 81 3 3 = true := by kernel_rfl
theorem fd81_3 : (match Try.prog.underlying 81 with | some (.struct fs) => (fs[3]?).map (fun fd => (fd.offset, fd.type)) | _ => none) = some (3, 3) := by kernel_rfl
theorem fld81_4 : fldB Try.prog 81 4 4 = true := by kernel_rfl
theorem fd81_4 : (match Try.prog.underlying 81 with | some (.struct fs) => (fs[4]?).map (fun fd => (fd.offset, fd.type)) | _ => none) = some (4, 3) := by kernel_rfl
theorem fld81_5 : fldB Try.prog 81 5 5 = true := by kernel_rfl
theorem fd81_5 : (match Try.prog.underlying 81 with | some (.struct fs) => (fs[5]?).map (fun fd => (fd.offset, fd.type)) | _ => none) = some (5, 3) := by kernel_rfl
theorem pl81 : plB Try.prog 81 [(0, 1), (1, 1), (2, 1), (3, 1), (4, 1), (5, 1)] = true := by kernel_rfl
theorem eqi81 : EqI Try.prog 81 6 := by
  intro xs ys hx hy w
  match xs, ys, hx, hy with
  | [a0, a1, a2, a3, a4, a5], [b0, b1, b2, b3, b4, b5], _, _ =>
    refine ⟨fun x y => run_eqGuard_agg w .eql 81 x y _ _ (by kernel_rfl), fun x y => run_eqGuard_agg w .neq 81 x y _ _ (by kernel_rfl), ?_⟩
    have hf : (Try.prog.fieldsOf 81).toList = [⟨ "X1", 3, 0, false, "", "", 0⟩, ⟨ "H1", 3, 1, false, "", "", 8⟩, ⟨ "V1", 3, 2, false, "", "", 16⟩, ⟨ "X2", 3, 3, false, "", "", 24⟩, ⟨ "H2", 3, 4, false, "", "", 32⟩, ⟨ "V2", 3, 5, false, "", "", 40⟩] := by kernel_rfl
    rw [show (10000 : Nat) = 9998 + 1 + 1 from rfl, run_equalIn_struct w (9998 + 1) 81 _ _ (by kernel_rfl) (by kernel_rfl), hf]
    have u3 := Try.underlying3; 
    simp [Op.eqFields, part, isAgg, run_underlying u3, iW, run_equalIn_int, u3, Result.andThen]
    (repeat' split) <;> simp_all
theorem sz82 : szB Try.prog 82 true 6 = true := by kernel_rfl
theorem by82 : byB Try.prog 82 48 = true := by kernel_rfl
theorem zr82 : zrB Try.prog 82 (.agg #[.int .i64 0, .int .i64 0, .int .i64 0, .int .i64 0, .int .i64 0, .int .i64 0]) := by unfold zrB; kernel_rfl
theorem fld82_0 : fldB Try.prog 82 0 0 = true := by kernel_rfl
theorem fd82_0 : (match Try.prog.underlying 82 with | some (.struct fs) => (fs[0]?).map (fun fd => (fd.offset, fd.type)) | _ => none) = some (0, 81) := by kernel_rfl
theorem pl82 : plB Try.prog 82 [(0, 6)] = true := by kernel_rfl
theorem sz83 : szB Try.prog 83 true 6 = true := by kernel_rfl
theorem by83 : byB Try.prog 83 48 = true := by kernel_rfl
theorem zr83 : zrB Try.prog 83 (.agg #[.int .i64 0, .int .i64 0, .int .i64 0, .int .i64 0, .int .i64 0, .int .i64 0]) := by unfold zrB; kernel_rfl
theorem fld83_0 : fldB Try.prog 83 0 0 = true := by kernel_rfl
theorem fd83_0 : (match Try.prog.underlying 83 with | some (.struct fs) => (fs[0]?).map (fun fd => (fd.offset, fd.type)) | _ => none) = some (0, 81) := by kernel_rfl
theorem pl83 : plB Try.prog 83 [(0, 6)] = true := by kernel_rfl
theorem sz97 : szB Try.prog 97 false 1 = true := by kernel_rfl
theorem by97 : byB Try.prog 97 8 = true := by kernel_rfl
theorem zr97 : zrB Try.prog 97 (.int .u64 0) := by unfold zrB; kernel_rfl
theorem int97 : intB Try.prog 97 .u64 = true := by kernel_rfl
theorem sz98 : szB Try.prog 98 false 1 = true := by kernel_rfl
theorem by98 : byB Try.prog 98 8 = true := by kernel_rfl
theorem zr98 : zrB Try.prog 98 (.int .u64 0) := by unfold zrB; kernel_rfl
theorem int98 : intB Try.prog 98 .u64 = true := by kernel_rfl
theorem sz99 : szB Try.prog 99 true 2 = true := by kernel_rfl
theorem by99 : byB Try.prog 99 16 = true := by kernel_rfl
theorem zr99 : zrB Try.prog 99 (.agg #[.int .u64 0, .int .u64 0]) := by unfold zrB; kernel_rfl
theorem fld99_0 : fldB Try.prog 99 0 0 = true := by kernel_rfl
theorem fd99_0 : (match Try.prog.underlying 99 with | some (.struct fs) => (fs[0]?).map (fun fd => (fd.offset, fd.type)) | _ => none) = some (0, 98) := by kernel_rfl
theorem fld99_1 : fldB Try.prog 99 1 1 = true := by kernel_rfl
theorem fd99_1 : (match Try.prog.underlying 99 with | some (.struct fs) => (fs[1]?).map (fun fd => (fd.offset, fd.type)) | _ => none) = some (1, 98) := by kernel_rfl
theorem pl99 : plB Try.prog 99 [(0, 1), (1, 1)] = true := by kernel_rfl
theorem eqk99 : EqK Try.prog .u64 99 2 := by
  intro xs ys hx hy w
  match xs, ys, hx, hy with
  | [a0, a1], [b0, b1], _, _ =>
    refine ⟨fun x y => run_eqGuard_agg w .eql 99 x y _ _ (by kernel_rfl), fun x y => run_eqGuard_agg w .neq 99 x y _ _ (by kernel_rfl), ?_⟩
    have hf : (Try.prog.fieldsOf 99).toList = [⟨ "high", 98, 0, false, "", "couplant/ray", 0⟩, ⟨ "low", 98, 1, false, "", "couplant/ray", 8⟩] := by kernel_rfl
    rw [show (10000 : Nat) = 9998 + 1 + 1 from rfl, run_equalIn_struct w (9998 + 1) 99 _ _ (by kernel_rfl) (by kernel_rfl), hf]
    have u98 := Try.underlying98; 
    simp [Op.eqFields, part, isAgg, run_underlying u98, kW, run_equalIn_int, u98, Result.andThen]
    (repeat' split) <;> simp_all
theorem sz100 : szB Try.prog 100 true 2 = true := by kernel_rfl
theorem by100 : byB Try.prog 100 16 = true := by kernel_rfl
theorem zr100 : zrB Try.prog 100 (.agg #[.int .u64 0, .int .u64 0]) := by unfold zrB; kernel_rfl
theorem fld100_0 : fldB Try.prog 100 0 0 = true := by kernel_rfl
theorem fd100_0 : (match Try.prog.underlying 100 with | some (.struct fs) => (fs[0]?).map (fun fd => (fd.offset, fd.type)) | _ => none) = some (0, 98) := by kernel_rfl
theorem fld100_1 : fldB Try.prog 100 1 1 = true := by kernel_rfl
theorem fd100_1 : (match Try.prog.underlying 100 with | some (.struct fs) => (fs[1]?).map (fun fd => (fd.offset, fd.type)) | _ => none) = some (1, 98) := by kernel_rfl
theorem pl100 : plB Try.prog 100 [(0, 1), (1, 1)] = true := by kernel_rfl
theorem eqk100 : EqK Try.prog .u64 100 2 := by
  intro xs ys hx hy w
  match xs, ys, hx, hy with
  | [a0, a1], [b0, b1], _, _ =>
    refine ⟨fun x y => run_eqGuard_agg w .eql 100 x y _ _ (by kernel_rfl), fun x y => run_eqGuard_agg w .neq 100 x y _ _ (by kernel_rfl), ?_⟩
    have hf : (Try.prog.fieldsOf 100).toList = [⟨ "high", 98, 0, false, "", "couplant/ray", 0⟩, ⟨ "low", 98, 1, false, "", "couplant/ray", 8⟩] := by kernel_rfl
    rw [show (10000 : Nat) = 9998 + 1 + 1 from rfl, run_equalIn_struct w (9998 + 1) 100 _ _ (by kernel_rfl) (by kernel_rfl), hf]
    have u98 := Try.underlying98; 
    simp [Op.eqFields, part, isAgg, run_underlying u98, kW, run_equalIn_int, u98, Result.andThen]
    (repeat' split) <;> simp_all
theorem sz106 : szB Try.prog 106 true 4 = true := by kernel_rfl
theorem by106 : byB Try.prog 106 40 = true := by kernel_rfl
theorem zr106 : zrB Try.prog 106 (.agg #[.pointer none, .pointer none, .pointer none, .string ⟨#[]⟩]) := by unfold zrB; kernel_rfl
theorem fld106_0 : fldB Try.prog 106 0 0 = true := by kernel_rfl
theorem fd106_0 : (match Try.prog.underlying 106 with | some (.struct fs) => (fs[0]?).map (fun fd => (fd.offset, fd.type)) | _ => none) = some (0, 17) := by kernel_rfl
theorem fld106_1 : fldB Try.prog 106 1 1 = true := by kernel_rfl
theorem fd106_1 : (match Try.prog.underlying 106 with | some (.struct fs) => (fs[1]?).map (fun fd => (fd.offset, fd.type)) | _ => none) = some (1, 17) := by kernel_rfl
theorem fld106_2 : fldB Try.prog 106 2 2 = true := by kernel_rfl
theorem fd106_2 : (match Try.prog.underlying 106 with | some (.struct fs) => (fs[2]?).map (fun fd => (fd.offset, fd.type)) | _ => none) = some (2, 17) := by kernel_rfl
theorem fld106_3 : fldB Try.prog 106 3 3 = true := by kernel_rfl
theorem fd106_3 : (match Try.prog.underlying 106 with | some (.struct fs) => (fs[3]?).map (fun fd => (fd.offset, fd.type)) | _ => none) = some (3, 9) := by kernel_rfl
theorem pl106 : plB Try.prog 106 [(0, 1), (1, 1), (2, 1), (3, 1)] = true := by kernel_rfl
theorem sz107 : szB Try.prog 107 true 4 = true := by kernel_rfl
theorem by107 : byB Try.prog 107 40 = true := by kernel_rfl
theorem zr107 : zrB Try.prog 107 (.agg #[.pointer none, .pointer none, .pointer none, .string ⟨#[]⟩]) := by unfold zrB; kernel_rfl
theorem fld107_0 : fldB Try.prog 107 0 0 = true := by kernel_rfl
theorem fd107_0 : (match Try.prog.underlying 107 with | some (.struct fs) => (fs[0]?).map (fun fd => (fd.offset, fd.type)) | _ => none) = some (0, 17) := by kernel_rfl
theorem fld107_1 : fldB Try.prog 107 1 1 = true := by kernel_rfl
theorem fd107_1 : (match Try.prog.underlying 107 with | some (.struct fs) => (fs[1]?).map (fun fd => (fd.offset, fd.type)) | _ => none) = some (1, 17) := by kernel_rfl
theorem fld107_2 : fldB Try.prog 107 2 2 = true := by kernel_rfl
theorem fd107_2 : (match Try.prog.underlying 107 with | some (.struct fs) => (fs[2]?).map (fun fd => (fd.offset, fd.type)) | _ => none) = some (2, 17) := by kernel_rfl
theorem fld107_3 : fldB Try.prog 107 3 3 = true := by kernel_rfl
theorem fd107_3 : (match Try.prog.underlying 107 with | some (.struct fs) => (fs[3]?).map (fun fd => (fd.offset, fd.type)) | _ => none) = some (3, 9) := by kernel_rfl
theorem pl107 : plB Try.prog 107 [(0, 1), (1, 1), (2, 1), (3, 1)] = true := by kernel_rfl
theorem sz108 : szB Try.prog 108 true 0 = true := by kernel_rfl
theorem by108 : byB Try.prog 108 0 = true := by kernel_rfl
theorem zr108 : zrB Try.prog 108 (.agg #[]) := by unfold zrB; kernel_rfl
theorem ar108 : arB Try.prog 108 0 16 1 = true := by kernel_rfl
theorem sz109 : szB Try.prog 109 true 0 = true := by kernel_rfl
theorem by109 : byB Try.prog 109 0 = true := by kernel_rfl
theorem zr109 : zrB Try.prog 109 (.agg #[]) := by unfold zrB; kernel_rfl
theorem fd109_0 : (match Try.prog.underlying 109 with | some (.struct fs) => (fs[0]?).map (fun fd => (fd.offset, fd.type)) | _ => none) = some (0, 108) := by kernel_rfl
theorem pl109 : plB Try.prog 109 [(0, 0)] = true := by kernel_rfl
theorem sz110 : szB Try.prog 110 true 0 = true := by kernel_rfl
theorem by110 : byB Try.prog 110 0 = true := by kernel_rfl
theorem zr110 : zrB Try.prog 110 (.agg #[]) := by unfold zrB; kernel_rfl
theorem fd110_0 : (match Try.prog.underlying 110 with | some (.struct fs) => (fs[0]?).map (fun fd => (fd.offset, fd.type)) | _ => none) = some (0, 108) := by kernel_rfl
theorem pl110 : plB Try.prog 110 [(0, 0)] = true := by kernel_rfl
theorem sz111 : szB Try.prog 111 false 1 = true := by kernel_rfl
theorem by111 : byB Try.prog 111 4 = true := by kernel_rfl
theorem zr111 : zrB Try.prog 111 (.int .u32 0) := by unfold zrB; kernel_rfl
theorem int111 : intB Try.prog 111 .u32 = true := by kernel_rfl
theorem sz112 : szB Try.prog 112 false 1 = true := by kernel_rfl
theorem by112 : byB Try.prog 112 1 = true := by kernel_rfl
theorem zr112 : zrB Try.prog 112 (.int .u8 0) := by unfold zrB; kernel_rfl
theorem int112 : intB Try.prog 112 .u8 = true := by kernel_rfl
theorem sz113 : szB Try.prog 113 false 1 = true := by kernel_rfl
theorem by113 : byB Try.prog 113 1 = true := by kernel_rfl
theorem zr113 : zrB Try.prog 113 (.int .u8 0) := by unfold zrB; kernel_rfl
theorem int113 : intB Try.prog 113 .u8 = true := by kernel_rfl
theorem sz115 : szB Try.prog 115 false 1 = true := by kernel_rfl
theorem by115 : byB Try.prog 115 8 = true := by kernel_rfl
theorem zr115 : zrB Try.prog 115 (.pointer none) := by unfold zrB; kernel_rfl
theorem sz116 : szB Try.prog 116 false 1 = true := by kernel_rfl
theorem by116 : byB Try.prog 116 4 = true := by kernel_rfl
theorem zr116 : zrB Try.prog 116 (.int .i32 0) := by unfold zrB; kernel_rfl
theorem int116 : intB Try.prog 116 .i32 = true := by kernel_rfl
theorem sz117 : szB Try.prog 117 false 1 = true := by kernel_rfl
theorem by117 : byB Try.prog 117 4 = true := by kernel_rfl
theorem zr117 : zrB Try.prog 117 (.int .i32 0) := by unfold zrB; kernel_rfl
theorem int117 : intB Try.prog 117 .i32 = true := by kernel_rfl
theorem sz118 : szB Try.prog 118 true 11 = true := by kernel_rfl
theorem by118 : byB Try.prog 118 48 = true := by kernel_rfl
theorem zr118 : zrB Try.prog 118 (.agg #[.int .u64 0, .int .u64 0, .int .u32 0, .int .u8 0, .int .u8 0, .int .u8 0, .int .u8 0, .nilFunc, .pointer none, .int .i32 0, .int .i32 0]) := by unfold zrB; kernel_rfl
theorem fld118_0 : fldB Try.prog 118 0 0 = true := by kernel_rfl
theorem fd118_0 : (match Try.prog.underlying 118 with | some (.struct fs) => (fs[0]?).map (fun fd => (fd.offset, fd.type)) | _ => none) = some (0, 12) := by kernel_rfl
theorem fld118_1 : fldB Try.prog 118 1 1 = true := by kernel_rfl
theorem fd118_1 : (match Try.prog.underlying 118 with | some (.struct fs) => (fs[1]?).map (fun fd => (fd.offset, fd.type)) | _ => none) = some (1, 12) := by kernel_rfl
theorem fld118_2 : fldB Try.prog 118 2 2 = true := by kernel_rfl
theorem fd118_2 : (match Try.prog.underlying 118 with | some (.struct fs) => (fs[2]?).map (fun fd => (fd.offset, fd.type)) | _ => none) = some (2, 111) := by kernel_rfl
theorem fld118_3 : fldB Try.prog 118 3 3 = true := by kernel_rfl
theorem fd118_3 : (match Try.prog.underlying 118 with | some (.struct fs) => (fs[3]?).map (fun fd => (fd.offset, fd.type)) | _ => none) = some (3, 112) := by kernel_rfl
theorem fld118_4 : fldB Try.prog 118 4 4 = true := by kernel_rfl
theorem fd118_4 : (match Try.prog.underlying 118 with | some (.struct fs) => (fs[4]?).map (fun fd => (fd.offset, fd.type)) | _ => none) = some (4, 5) := by kernel_rfl
theorem fld118_5 : fldB Try.prog 118 5 5 = true := by kernel_rfl
theorem fd118_5 : (match Try.prog.underlying 118 with | some (.struct fs) => (fs[5]?).map (fun fd => (fd.offset, fd.type)) | _ => none) = some (5, 5) := by kernel_rfl
theorem fld118_6 : fldB Try.prog 118 6 6 = true := by kernel_rfl
theorem fd118_6 : (match Try.prog.underlying 118 with | some (.struct fs) => (fs[6]?).map (fun fd => (fd.offset, fd.type)) | _ => none) = some (6, 113) := by kernel_rfl
theorem fld118_7 : fldB Try.prog 118 7 7 = true := by kernel_rfl
theorem fd118_7 : (match Try.prog.underlying 118 with | some (.struct fs) => (fs[7]?).map (fun fd => (fd.offset, fd.type)) | _ => none) = some (7, 114) := by kernel_rfl
theorem fld118_8 : fldB Try.prog 118 8 8 = true := by kernel_rfl
theorem fd118_8 : (match Try.prog.underlying 118 with | some (.struct fs) => (fs[8]?).map (fun fd => (fd.offset, fd.type)) | _ => none) = some (8, 115) := by kernel_rfl
theorem fld118_9 : fldB Try.prog 118 9 9 = true := by kernel_rfl
theorem fd118_9 : (match Try.prog.underlying 118 with | some (.struct fs) => (fs[9]?).map (fun fd => (fd.offset, fd.type)) | _ => none) = some (9, 116) := by kernel_rfl
theorem fld118_10 : fldB Try.prog 118 10 10 = true := by kernel_rfl
theorem fd118_10 : (match Try.prog.underlying 118 with | some (.struct fs) => (fs[10]?).map (fun fd => (fd.offset, fd.type)) | _ => none) = some (10, 117) := by kernel_rfl
theorem pl118 : plB Try.prog 118 [(0, 1), (1, 1), (2, 1), (3, 1), (4, 1), (5, 1), (6, 1), (7, 1), (8, 1), (9, 1), (10, 1)] = true := by kernel_rfl
theorem sz119 : szB Try.prog 119 true 11 = true := by kernel_rfl
theorem by119 : byB Try.prog 119 48 = true := by kernel_rfl
theorem zr119 : zrB Try.prog 119 (.agg #[.int .u64 0, .int .u64 0, .int .u32 0, .int .u8 0, .int .u8 0, .int .u8 0, .int .u8 0, .nilFunc, .pointer none, .int .i32 0, .int .i32 0]) := by unfold zrB; kernel_rfl
theorem fld119_0 : fldB Try.prog 119 0 0 = true := by kernel_rfl
theorem fd119_0 : (match Try.prog.underlying 119 with | some (.struct fs) => (fs[0]?).map (fun fd => (fd.offset, fd.type)) | _ => none) = some (0, 12) := by kernel_rfl
theorem fld119_1 : fldB Try.prog 119 1 1 = true := by kernel_rfl
theorem fd119_1 : (match Try.prog.underlying 119 with | some (.struct fs) => (fs[1]?).map (fun fd => (fd.offset, fd.type)) | _ => none) = some (1, 12) := by kernel_rfl
theorem fld119_2 : fldB Try.prog 119 2 2 = true := by kernel_rfl
theorem fd119_2 : (match Try.prog.underlying 119 with | some (.struct fs) => (fs[2]?).map (fun fd => (fd.offset, fd.type)) | _ => none) = some (2, 111) := by kernel_rfl
theorem fld119_3 : fldB Try.prog 119 3 3 = true := by kernel_rfl
theorem fd119_3 : (match Try.prog.underlying 119 with | some (.struct fs) => (fs[3]?).map (fun fd => (fd.offset, fd.type)) | _ => none) = some (3, 112) := by kernel_rfl
theorem fld119_4 : fldB Try.prog 119 4 4 = true := by kernel_rfl
theorem fd119_4 : (match Try.prog.underlying 119 with | some (.struct fs) => (fs[4]?).map (fun fd => (fd.offset, fd.type)) | _ => none) = some (4, 5) := by kernel_rfl
theorem fld119_5 : fldB Try.prog 119 5 5 = true := by kernel_rfl
theorem fd119_5 : (match Try.prog.underlying 119 with | some (.struct fs) => (fs[5]?).map (fun fd => (fd.offset, fd.type)) | _ => none) = some (5, 5) := by kernel_rfl
theorem fld119_6 : fldB Try.prog 119 6 6 = true := by kernel_rfl
theorem fd119_6 : (match Try.prog.underlying 119 with | some (.struct fs) => (fs[6]?).map (fun fd => (fd.offset, fd.type)) | _ => none) = some (6, 113) := by kernel_rfl
theorem fld119_7 : fldB Try.prog 119 7 7 = true := by kernel_rfl
theorem fd119_7 : (match Try.prog.underlying 119 with | some (.struct fs) => (fs[7]?).map (fun fd => (fd.offset, fd.type)) | _ => none) = some (7, 114) := by kernel_rfl
theorem fld119_8 : fldB Try.prog 119 8 8 = true := by kernel_rfl
theorem fd119_8 : (match Try.prog.underlying 119 with | some (.struct fs) => (fs[8]?).map (fun fd => (fd.offset, fd.type)) | _ => none) = some (8, 115) := by kernel_rfl
theorem fld119_9 : fldB Try.prog 119 9 9 = true := by kernel_rfl
theorem fd119_9 : (match Try.prog.underlying 119 with | some (.struct fs) => (fs[9]?).map (fun fd => (fd.offset, fd.type)) | _ => none) = some (9, 116) := by kernel_rfl
theorem fld119_10 : fldB Try.prog 119 10 10 = true := by kernel_rfl
theorem fd119_10 : (match Try.prog.underlying 119 with | some (.struct fs) => (fs[10]?).map (fun fd => (fd.offset, fd.type)) | _ => none) = some (10, 117) := by kernel_rfl
theorem pl119 : plB Try.prog 119 [(0, 1), (1, 1), (2, 1), (3, 1), (4, 1), (5, 1), (6, 1), (7, 1), (8, 1), (9, 1), (10, 1)] = true := by kernel_rfl
theorem sz121 : szB Try.prog 121 false 1 = true := by kernel_rfl
theorem by121 : byB Try.prog 121 8 = true := by kernel_rfl
theorem zr121 : zrB Try.prog 121 (.pointer none) := by unfold zrB; kernel_rfl
theorem sz122 : szB Try.prog 122 false 1 = true := by kernel_rfl
theorem by122 : byB Try.prog 122 24 = true := by kernel_rfl
theorem zr122 : zrB Try.prog 122 (.slice none 0 0) := by unfold zrB; kernel_rfl
theorem sl122 : slB Try.prog 122 34 2 = true := by kernel_rfl
theorem isl122 : isSl Try.prog 122 = true := by kernel_rfl
end Go.Proofs.Ytdlckcohedcboaa.Am
