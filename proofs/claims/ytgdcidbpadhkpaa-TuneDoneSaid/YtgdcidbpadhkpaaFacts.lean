/- Closed facts of the program's types and functions. Conditions: none. -/
import Derived.Test.YtgdcidbpadhkpaaRows
import Derived.Test.YtgdcidbpadhkpaaAmC
set_option linter.unusedVariables false
set_option linter.unusedSimpArgs false
namespace Go.Proofs.Ytgdcidbpadhkpaa.Am
open Go
theorem mixed : Try.prog.follows .mixedOrders = true := by kernel_rfl
theorem en2 : enB Try.prog 2 = true := by kernel_rfl
theorem en3 : enB Try.prog 3 = true := by kernel_rfl
theorem en4 : enB Try.prog 4 = true := by kernel_rfl
theorem en5 : enB Try.prog 5 = true := by kernel_rfl
theorem en6 : enB Try.prog 6 = true := by kernel_rfl
theorem en7 : enB Try.prog 7 = true := by kernel_rfl
theorem en8 : enB Try.prog 8 = true := by kernel_rfl
theorem en9 : enB Try.prog 9 = true := by kernel_rfl
theorem en10 : enB Try.prog 10 = true := by kernel_rfl
theorem en11 : enB Try.prog 11 = true := by kernel_rfl
theorem en12 : enB Try.prog 12 = true := by kernel_rfl
theorem en13 : enB Try.prog 13 = true := by kernel_rfl
theorem en14 : enB Try.prog 14 = true := by kernel_rfl
theorem en15 : enB Try.prog 15 = true := by kernel_rfl
theorem en16 : enB Try.prog 16 = true := by kernel_rfl
theorem en17 : enB Try.prog 17 = true := by kernel_rfl
theorem en18 : enB Try.prog 18 = true := by kernel_rfl
theorem en19 : enB Try.prog 19 = true := by kernel_rfl
theorem en20 : enB Try.prog 20 = true := by kernel_rfl
theorem en21 : enB Try.prog 21 = true := by kernel_rfl
theorem en22 : enB Try.prog 22 = true := by kernel_rfl
theorem en23 : enB Try.prog 23 = true := by kernel_rfl
theorem en24 : enB Try.prog 24 = true := by kernel_rfl
theorem en25 : enB Try.prog 25 = true := by kernel_rfl
theorem en26 : enB Try.prog 26 = true := by kernel_rfl
theorem en27 : enB Try.prog 27 = true := by kernel_rfl
theorem en28 : enB Try.prog 28 = true := by kernel_rfl
theorem en29 : enB Try.prog 29 = true := by kernel_rfl
theorem en30 : enB Try.prog 30 = true := by kernel_rfl
theorem en31 : enB Try.prog 31 = true := by kernel_rfl
theorem en32 : enB Try.prog 32 = true := by kernel_rfl
theorem en33 : enB Try.prog 33 = true := by kernel_rfl
theorem en34 : enB Try.prog 34 = true := by kernel_rfl
theorem en35 : enB Try.prog 35 = true := by kernel_rfl
theorem en36 : enB Try.prog 36 = true := by kernel_rfl
theorem en37 : enB Try.prog 37 = true := by kernel_rfl
theorem en38 : enB Try.prog 38 = true := by kernel_rfl
theorem en39 : enB Try.prog 39 = true := by kernel_rfl
theorem en40 : enB Try.prog 40 = true := by kernel_rfl
theorem en41 : enB Try.prog 41 = true := by kernel_rfl
theorem en42 : enB Try.prog 42 = true := by kernel_rfl
theorem en43 : enB Try.prog 43 = true := by kernel_rfl
theorem en44 : enB Try.prog 44 = true := by kernel_rfl
theorem en45 : enB Try.prog 45 = true := by kernel_rfl
theorem en46 : enB Try.prog 46 = true := by kernel_rfl
theorem en47 : enB Try.prog 47 = true := by kernel_rfl
theorem en48 : enB Try.prog 48 = true := by kernel_rfl
theorem en49 : enB Try.prog 49 = true := by kernel_rfl
theorem en50 : enB Try.prog 50 = true := by kernel_rfl
theorem en51 : enB Try.prog 51 = true := by kernel_rfl
theorem en52 : enB Try.prog 52 = true := by kernel_rfl
theorem en53 : enB Try.prog 53 = true := by kernel_rfl
theorem en54 : enB Try.prog 54 = true := by kernel_rfl
theorem en55 : enB Try.prog 55 = true := by kernel_rfl
theorem en56 : enB Try.prog 56 = true := by kernel_rfl
theorem en57 : enB Try.prog 57 = true := by kernel_rfl
theorem en58 : enB Try.prog 58 = true := by kernel_rfl
theorem en59 : enB Try.prog 59 = true := by kernel_rfl
theorem en60 : enB Try.prog 60 = true := by kernel_rfl
theorem en61 : enB Try.prog 61 = true := by kernel_rfl
theorem en62 : enB Try.prog 62 = true := by kernel_rfl
theorem en63 : enB Try.prog 63 = true := by kernel_rfl
theorem en64 : enB Try.prog 64 = true := by kernel_rfl
theorem en65 : enB Try.prog 65 = true := by kernel_rfl
theorem en66 : enB Try.prog 66 = true := by kernel_rfl
theorem en67 : enB Try.prog 67 = true := by kernel_rfl
theorem en68 : enB Try.prog 68 = true := by kernel_rfl
theorem en69 : enB Try.prog 69 = true := by kernel_rfl
theorem en70 : enB Try.prog 70 = true := by kernel_rfl
theorem en71 : enB Try.prog 71 = true := by kernel_rfl
theorem en72 : enB Try.prog 72 = true := by kernel_rfl
theorem en73 : enB Try.prog 73 = true := by kernel_rfl
theorem en74 : enB Try.prog 74 = true := by kernel_rfl
theorem en75 : enB Try.prog 75 = true := by kernel_rfl
theorem en76 : enB Try.prog 76 = true := by kernel_rfl
theorem en77 : enB Try.prog 77 = true := by kernel_rfl
theorem en78 : enB Try.prog 78 = true := by kernel_rfl
theorem en79 : enB Try.prog 79 = true := by kernel_rfl
theorem en80 : enB Try.prog 80 = true := by kernel_rfl
theorem en81 : enB Try.prog 81 = true := by kernel_rfl
theorem en82 : enB Try.prog 82 = true := by kernel_rfl
theorem en83 : enB Try.prog 83 = true := by kernel_rfl
theorem en84 : enB Try.prog 84 = true := by kernel_rfl
theorem en85 : enB Try.prog 85 = true := by kernel_rfl
theorem en86 : enB Try.prog 86 = true := by kernel_rfl
theorem en87 : enB Try.prog 87 = true := by kernel_rfl
theorem en88 : enB Try.prog 88 = true := by kernel_rfl
theorem en89 : enB Try.prog 89 = true := by kernel_rfl
theorem en90 : enB Try.prog 90 = true := by kernel_rfl
theorem en91 : enB Try.prog 91 = true := by kernel_rfl
theorem en92 : enB Try.prog 92 = true := by kernel_rfl
theorem en93 : enB Try.prog 93 = true := by kernel_rfl
theorem en94 : enB Try.prog 94 = true := by kernel_rfl
theorem en95 : enB Try.prog 95 = true := by kernel_rfl
theorem en96 : enB Try.prog 96 = true := by kernel_rfl
theorem en97 : enB Try.prog 97 = true := by kernel_rfl
theorem en98 : enB Try.prog 98 = true := by kernel_rfl
theorem en99 : enB Try.prog 99 = true := by kernel_rfl
theorem en100 : enB Try.prog 100 = true := by kernel_rfl
theorem en101 : enB Try.prog 101 = true := by kernel_rfl
theorem en102 : enB Try.prog 102 = true := by kernel_rfl
theorem en103 : enB Try.prog 103 = true := by kernel_rfl
theorem en104 : enB Try.prog 104 = true := by kernel_rfl
theorem en105 : enB Try.prog 105 = true := by kernel_rfl
theorem en106 : enB Try.prog 106 = true := by kernel_rfl
theorem en107 : enB Try.prog 107 = true := by kernel_rfl
theorem en108 : enB Try.prog 108 = true := by kernel_rfl
theorem en109 : enB Try.prog 109 = true := by kernel_rfl
theorem en110 : enB Try.prog 110 = true := by kernel_rfl
theorem en111 : enB Try.prog 111 = true := by kernel_rfl
theorem en112 : enB Try.prog 112 = true := by kernel_rfl
theorem en113 : enB Try.prog 113 = true := by kernel_rfl
theorem en114 : enB Try.prog 114 = true := by kernel_rfl
theorem en115 : enB Try.prog 115 = true := by kernel_rfl
theorem en116 : enB Try.prog 116 = true := by kernel_rfl
theorem en117 : enB Try.prog 117 = true := by kernel_rfl
theorem en118 : enB Try.prog 118 = true := by kernel_rfl
theorem en119 : enB Try.prog 119 = true := by kernel_rfl
theorem en120 : enB Try.prog 120 = true := by kernel_rfl
theorem en121 : enB Try.prog 121 = true := by kernel_rfl
theorem en122 : enB Try.prog 122 = true := by kernel_rfl
theorem en123 : enB Try.prog 123 = true := by kernel_rfl
theorem en124 : enB Try.prog 124 = true := by kernel_rfl
theorem en125 : enB Try.prog 125 = true := by kernel_rfl
theorem en126 : enB Try.prog 126 = true := by kernel_rfl
theorem en127 : enB Try.prog 127 = true := by kernel_rfl
theorem en128 : enB Try.prog 128 = true := by kernel_rfl
theorem en129 : enB Try.prog 129 = true := by kernel_rfl
theorem en130 : enB Try.prog 130 = true := by kernel_rfl
theorem en131 : enB Try.prog 131 = true := by kernel_rfl
theorem sz2 : szB Try.prog 2 false 1 = true := by kernel_rfl
theorem by2 : byB Try.prog 2 8 = true := by kernel_rfl
theorem zr2 : zrB Try.prog 2 (.int .i64 0) := by unfold zrB; kernel_rfl
theorem int2 : intB Try.prog 2 .i64 = true := by kernel_rfl
theorem sz3 : szB Try.prog 3 false 1 = true := by kernel_rfl
theorem by3 : byB Try.prog 3 8 = true := by kernel_rfl
theorem zr3 : zrB Try.prog 3 (.int .i64 0) := by unfold zrB; kernel_rfl
theorem int3 : intB Try.prog 3 .i64 = true := by kernel_rfl
theorem sz4 : szB Try.prog 4 false 1 = true := by kernel_rfl
theorem by4 : byB Try.prog 4 1 = true := by kernel_rfl
theorem zr4 : zrB Try.prog 4 (.bool false) := by unfold zrB; kernel_rfl
theorem sz5 : szB Try.prog 5 false 1 = true := by kernel_rfl
theorem by5 : byB Try.prog 5 1 = true := by kernel_rfl
theorem zr5 : zrB Try.prog 5 (.int .u8 0) := by unfold zrB; kernel_rfl
theorem int5 : intB Try.prog 5 .u8 = true := by kernel_rfl
theorem sz6 : szB Try.prog 6 false 1 = true := by kernel_rfl
theorem by6 : byB Try.prog 6 1 = true := by kernel_rfl
theorem zr6 : zrB Try.prog 6 (.int .u8 0) := by unfold zrB; kernel_rfl
theorem int6 : intB Try.prog 6 .u8 = true := by kernel_rfl
theorem sz7 : szB Try.prog 7 true 4 = true := by kernel_rfl
theorem by7 : byB Try.prog 7 24 = true := by kernel_rfl
theorem zr7 : zrB Try.prog 7 (.agg #[.int .i64 0, .int .i64 0, .bool false, .int .u8 0]) := by unfold zrB; kernel_rfl
theorem fld7_0 : fldB Try.prog 7 0 0 = true := by kernel_rfl
theorem fd7_0 : (match Try.prog.underlying 7 with | some (.struct fs) => (fs[0]?).map (fun fd => (fd.offset, fd.type)) | _ => none) = some (0, 2) := by kernel_rfl
theorem fld7_1 : fldB Try.prog 7 1 1 = true := by kernel_rfl
theorem fd7_1 : (match Try.prog.underlying 7 with | some (.struct fs) => (fs[1]?).map (fun fd => (fd.offset, fd.type)) | _ => none) = some (1, 3) := by kernel_rfl
theorem fld7_2 : fldB Try.prog 7 2 2 = true := by kernel_rfl
theorem fd7_2 : (match Try.prog.underlying 7 with | some (.struct fs) => (fs[2]?).map (fun fd => (fd.offset, fd.type)) | _ => none) = some (2, 4) := by kernel_rfl
theorem fld7_3 : fldB Try.prog 7 3 3 = true := by kernel_rfl
theorem fd7_3 : (match Try.prog.underlying 7 with | some (.struct fs) => (fs[3]?).map (fun fd => (fd.offset, fd.type)) | _ => none) = some (3, 6) := by kernel_rfl
theorem pl7 : plB Try.prog 7 [(0, 1), (1, 1), (2, 1), (3, 1)] = true := by kernel_rfl
theorem sz8 : szB Try.prog 8 true 4 = true := by kernel_rfl
theorem by8 : byB Try.prog 8 24 = true := by kernel_rfl
theorem zr8 : zrB Try.prog 8 (.agg #[.int .i64 0, .int .i64 0, .bool false, .int .u8 0]) := by unfold zrB; kernel_rfl
theorem fld8_0 : fldB Try.prog 8 0 0 = true := by kernel_rfl
theorem fd8_0 : (match Try.prog.underlying 8 with | some (.struct fs) => (fs[0]?).map (fun fd => (fd.offset, fd.type)) | _ => none) = some (0, 2) := by kernel_rfl
theorem fld8_1 : fldB Try.prog 8 1 1 = true := by kernel_rfl
theorem fd8_1 : (match Try.prog.underlying 8 with | some (.struct fs) => (fs[1]?).map (fun fd => (fd.offset, fd.type)) | _ => none) = some (1, 3) := by kernel_rfl
theorem fld8_2 : fldB Try.prog 8 2 2 = true := by kernel_rfl
theorem fd8_2 : (match Try.prog.underlying 8 with | some (.struct fs) => (fs[2]?).map (fun fd => (fd.offset, fd.type)) | _ => none) = some (2, 4) := by kernel_rfl
theorem fld8_3 : fldB Try.prog 8 3 3 = true := by kernel_rfl
theorem fd8_3 : (match Try.prog.underlying 8 with | some (.struct fs) => (fs[3]?).map (fun fd => (fd.offset, fd.type)) | _ => none) = some (3, 6) := by kernel_rfl
theorem pl8 : plB Try.prog 8 [(0, 1), (1, 1), (2, 1), (3, 1)] = true := by kernel_rfl
theorem sz9 : szB Try.prog 9 false 1 = true := by kernel_rfl
theorem by9 : byB Try.prog 9 16 = true := by kernel_rfl
theorem zr9 : zrB Try.prog 9 (.string ⟨#[]⟩) := by unfold zrB; kernel_rfl
theorem str9 : isStr Try.prog 9 = true := by kernel_rfl
theorem sz10 : szB Try.prog 10 false 1 = true := by kernel_rfl
theorem by10 : byB Try.prog 10 16 = true := by kernel_rfl
theorem zr10 : zrB Try.prog 10 (.string ⟨#[]⟩) := by unfold zrB; kernel_rfl
theorem str10 : isStr Try.prog 10 = true := by kernel_rfl
theorem sz11 : szB Try.prog 11 false 1 = true := by kernel_rfl
theorem by11 : byB Try.prog 11 16 = true := by kernel_rfl
theorem zr11 : zrB Try.prog 11 (.string ⟨#[]⟩) := by unfold zrB; kernel_rfl
theorem str11 : isStr Try.prog 11 = true := by kernel_rfl
theorem sz12 : szB Try.prog 12 false 1 = true := by kernel_rfl
theorem by12 : byB Try.prog 12 8 = true := by kernel_rfl
theorem zr12 : zrB Try.prog 12 (.int .u64 0) := by unfold zrB; kernel_rfl
theorem int12 : intB Try.prog 12 .u64 = true := by kernel_rfl
theorem sz13 : szB Try.prog 13 true 2 = true := by kernel_rfl
theorem by13 : byB Try.prog 13 24 = true := by kernel_rfl
theorem zr13 : zrB Try.prog 13 (.agg #[.string ⟨#[]⟩, .int .u64 0]) := by unfold zrB; kernel_rfl
theorem fld13_0 : fldB Try.prog 13 0 0 = true := by kernel_rfl
theorem fd13_0 : (match Try.prog.underlying 13 with | some (.struct fs) => (fs[0]?).map (fun fd => (fd.offset, fd.type)) | _ => none) = some (0, 9) := by kernel_rfl
theorem fld13_1 : fldB Try.prog 13 1 1 = true := by kernel_rfl
theorem fd13_1 : (match Try.prog.underlying 13 with | some (.struct fs) => (fs[1]?).map (fun fd => (fd.offset, fd.type)) | _ => none) = some (1, 12) := by kernel_rfl
theorem pl13 : plB Try.prog 13 [(0, 1), (1, 1)] = true := by kernel_rfl
theorem sz14 : szB Try.prog 14 true 2 = true := by kernel_rfl
theorem by14 : byB Try.prog 14 24 = true := by kernel_rfl
theorem zr14 : zrB Try.prog 14 (.agg #[.string ⟨#[]⟩, .int .u64 0]) := by unfold zrB; kernel_rfl
theorem fld14_0 : fldB Try.prog 14 0 0 = true := by kernel_rfl
theorem fd14_0 : (match Try.prog.underlying 14 with | some (.struct fs) => (fs[0]?).map (fun fd => (fd.offset, fd.type)) | _ => none) = some (0, 9) := by kernel_rfl
theorem fld14_1 : fldB Try.prog 14 1 1 = true := by kernel_rfl
theorem fd14_1 : (match Try.prog.underlying 14 with | some (.struct fs) => (fs[1]?).map (fun fd => (fd.offset, fd.type)) | _ => none) = some (1, 12) := by kernel_rfl
theorem pl14 : plB Try.prog 14 [(0, 1), (1, 1)] = true := by kernel_rfl
theorem sz15 : szB Try.prog 15 false 1 = true := by kernel_rfl
theorem by15 : byB Try.prog 15 8 = true := by kernel_rfl
theorem zr15 : zrB Try.prog 15 (.pointer none) := by unfold zrB; kernel_rfl
theorem sz16 : szB Try.prog 16 false 1 = true := by kernel_rfl
theorem by16 : byB Try.prog 16 8 = true := by kernel_rfl
theorem zr16 : zrB Try.prog 16 (.pointer none) := by unfold zrB; kernel_rfl
theorem sz17 : szB Try.prog 17 false 1 = true := by kernel_rfl
theorem by17 : byB Try.prog 17 8 = true := by kernel_rfl
theorem zr17 : zrB Try.prog 17 (.pointer none) := by unfold zrB; kernel_rfl
theorem sz18 : szB Try.prog 18 true 1 = true := by kernel_rfl
theorem by18 : byB Try.prog 18 8 = true := by kernel_rfl
theorem zr18 : zrB Try.prog 18 (.agg #[.pointer none]) := by unfold zrB; kernel_rfl
theorem fld18_0 : fldB Try.prog 18 0 0 = true := by kernel_rfl
theorem fd18_0 : (match Try.prog.underlying 18 with | some (.struct fs) => (fs[0]?).map (fun fd => (fd.offset, fd.type)) | _ => none) = some (0, 17) := by kernel_rfl
theorem pl18 : plB Try.prog 18 [(0, 1)] = true := by kernel_rfl
theorem sz19 : szB Try.prog 19 true 1 = true := by kernel_rfl
theorem by19 : byB Try.prog 19 8 = true := by kernel_rfl
theorem zr19 : zrB Try.prog 19 (.agg #[.pointer none]) := by unfold zrB; kernel_rfl
theorem fld19_0 : fldB Try.prog 19 0 0 = true := by kernel_rfl
theorem fd19_0 : (match Try.prog.underlying 19 with | some (.struct fs) => (fs[0]?).map (fun fd => (fd.offset, fd.type)) | _ => none) = some (0, 17) := by kernel_rfl
theorem pl19 : plB Try.prog 19 [(0, 1)] = true := by kernel_rfl
theorem sz21 : szB Try.prog 21 false 1 = true := by kernel_rfl
theorem by21 : byB Try.prog 21 4 = true := by kernel_rfl
theorem zr21 : zrB Try.prog 21 (.int .i32 0) := by unfold zrB; kernel_rfl
theorem int21 : intB Try.prog 21 .i32 = true := by kernel_rfl
theorem sz22 : szB Try.prog 22 false 1 = true := by kernel_rfl
theorem by22 : byB Try.prog 22 24 = true := by kernel_rfl
theorem zr22 : zrB Try.prog 22 (.slice none 0 0) := by unfold zrB; kernel_rfl
theorem sl22 : slB Try.prog 22 59 2 = true := by kernel_rfl
theorem isl22 : isSl Try.prog 22 = true := by kernel_rfl
theorem sz25 : szB Try.prog 25 false 1 = true := by kernel_rfl
theorem by25 : byB Try.prog 25 24 = true := by kernel_rfl
theorem zr25 : zrB Try.prog 25 (.slice none 0 0) := by unfold zrB; kernel_rfl
theorem sl25 : slB Try.prog 25 3 1 = true := by kernel_rfl
theorem isl25 : isSl Try.prog 25 = true := by kernel_rfl
theorem sz26 : szB Try.prog 26 false 1 = true := by kernel_rfl
theorem by26 : byB Try.prog 26 8 = true := by kernel_rfl
theorem zr26 : zrB Try.prog 26 (.int .i64 0) := by unfold zrB; kernel_rfl
theorem int26 : intB Try.prog 26 .i64 = true := by kernel_rfl
theorem sz40 : szB Try.prog 40 false 1 = true := by kernel_rfl
theorem by40 : byB Try.prog 40 24 = true := by kernel_rfl
theorem zr40 : zrB Try.prog 40 (.slice none 0 0) := by unfold zrB; kernel_rfl
theorem sl40 : slB Try.prog 40 87 4 = true := by kernel_rfl
theorem isl40 : isSl Try.prog 40 = true := by kernel_rfl
theorem sz41 : szB Try.prog 41 false 1 = true := by kernel_rfl
theorem by41 : byB Try.prog 41 24 = true := by kernel_rfl
theorem zr41 : zrB Try.prog 41 (.slice none 0 0) := by unfold zrB; kernel_rfl
theorem sl41 : slB Try.prog 41 90 3 = true := by kernel_rfl
theorem isl41 : isSl Try.prog 41 = true := by kernel_rfl
theorem sz51 : szB Try.prog 51 true 2 = true := by kernel_rfl
theorem by51 : byB Try.prog 51 16 = true := by kernel_rfl
theorem zr51 : zrB Try.prog 51 (.agg #[.int .i64 0, .int .i64 0]) := by unfold zrB; kernel_rfl
theorem fld51_0 : fldB Try.prog 51 0 0 = true := by kernel_rfl
theorem fd51_0 : (match Try.prog.underlying 51 with | some (.struct fs) => (fs[0]?).map (fun fd => (fd.offset, fd.type)) | _ => none) = some (0, 3) := by kernel_rfl
theorem fld51_1 : fldB Try.prog 51 1 1 = true := by kernel_rfl
theorem fd51_1 : (match Try.prog.underlying 51 with | some (.struct fs) => (fs[1]?).map (fun fd => (fd.offset, fd.type)) | _ => none) = some (1, 3) := by kernel_rfl
theorem pl51 : plB Try.prog 51 [(0, 1), (1, 1)] = true := by kernel_rfl
theorem eqi51 : EqI Try.prog 51 2 := by
  intro xs ys hx hy w
  match xs, ys, hx, hy with
  | [a0, a1], [b0, b1], _, _ =>
    refine ⟨fun x y => run_eqGuard_agg w .eql 51 x y _ _ (by kernel_rfl), fun x y => run_eqGuard_agg w .neq 51 x y _ _ (by kernel_rfl), ?_⟩
    have hf : (Try.prog.fieldsOf 51).toList = [⟨ "Lo", 3, 0, false, "", "", 0⟩, ⟨ "Hi", 3, 1, false, "", "", 8⟩] := by kernel_rfl
    rw [show (10000 : Nat) = 9998 + 1 + 1 from rfl, run_equalIn_struct w (9998 + 1) 51 _ _ (by kernel_rfl) (by kernel_rfl), hf]
    have u3 := Try.underlying3; 
    simp [Op.eqFields, part, isAgg, run_underlying u3, iW, run_equalIn_int, u3, Result.andThen]
    (repeat' split) <;> simp_all
theorem sz52 : szB Try.prog 52 true 2 = true := by kernel_rfl
theorem by52 : byB Try.prog 52 16 = true := by kernel_rfl
theorem zr52 : zrB Try.prog 52 (.agg #[.int .i64 0, .int .i64 0]) := by unfold zrB; kernel_rfl
theorem fld52_0 : fldB Try.prog 52 0 0 = true := by kernel_rfl
theorem fd52_0 : (match Try.prog.underlying 52 with | some (.struct fs) => (fs[0]?).map (fun fd => (fd.offset, fd.type)) | _ => none) = some (0, 3) := by kernel_rfl
theorem fld52_1 : fldB Try.prog 52 1 1 = true := by kernel_rfl
theorem fd52_1 : (match Try.prog.underlying 52 with | some (.struct fs) => (fs[1]?).map (fun fd => (fd.offset, fd.type)) | _ => none) = some (1, 3) := by kernel_rfl
theorem pl52 : plB Try.prog 52 [(0, 1), (1, 1)] = true := by kernel_rfl
theorem eqi52 : EqI Try.prog 52 2 := by
  intro xs ys hx hy w
  match xs, ys, hx, hy with
  | [a0, a1], [b0, b1], _, _ =>
    refine ⟨fun x y => run_eqGuard_agg w .eql 52 x y _ _ (by kernel_rfl), fun x y => run_eqGuard_agg w .neq 52 x y _ _ (by kernel_rfl), ?_⟩
    have hf : (Try.prog.fieldsOf 52).toList = [⟨ "Lo", 3, 0, false, "", "", 0⟩, ⟨ "Hi", 3, 1, false, "", "", 8⟩] := by kernel_rfl
    rw [show (10000 : Nat) = 9998 + 1 + 1 from rfl, run_equalIn_struct w (9998 + 1) 52 _ _ (by kernel_rfl) (by kernel_rfl), hf]
    have u3 := Try.underlying3; 
    simp [Op.eqFields, part, isAgg, run_underlying u3, iW, run_equalIn_int, u3, Result.andThen]
    (repeat' split) <;> simp_all
theorem sz58 : szB Try.prog 58 true 2 = true := by kernel_rfl
theorem by58 : byB Try.prog 58 16 = true := by kernel_rfl
theorem zr58 : zrB Try.prog 58 (.agg #[.int .i64 0, .int .i64 0]) := by unfold zrB; kernel_rfl
theorem fld58_0 : fldB Try.prog 58 0 0 = true := by kernel_rfl
theorem fd58_0 : (match Try.prog.underlying 58 with | some (.struct fs) => (fs[0]?).map (fun fd => (fd.offset, fd.type)) | _ => none) = some (0, 3) := by kernel_rfl
theorem fld58_1 : fldB Try.prog 58 1 1 = true := by kernel_rfl
theorem fd58_1 : (match Try.prog.underlying 58 with | some (.struct fs) => (fs[1]?).map (fun fd => (fd.offset, fd.type)) | _ => none) = some (1, 3) := by kernel_rfl
theorem pl58 : plB Try.prog 58 [(0, 1), (1, 1)] = true := by kernel_rfl
theorem eqi58 : EqI Try.prog 58 2 := by
  intro xs ys hx hy w
  match xs, ys, hx, hy with
  | [a0, a1], [b0, b1], _, _ =>
    refine ⟨fun x y => run_eqGuard_agg w .eql 58 x y _ _ (by kernel_rfl), fun x y => run_eqGuard_agg w .neq 58 x y _ _ (by kernel_rfl), ?_⟩
    have hf : (Try.prog.fieldsOf 58).toList = [⟨ "Depth", 3, 0, false, "", "", 0⟩, ⟨ "Echo", 3, 1, false, "", "", 8⟩] := by kernel_rfl
    rw [show (10000 : Nat) = 9998 + 1 + 1 from rfl, run_equalIn_struct w (9998 + 1) 58 _ _ (by kernel_rfl) (by kernel_rfl), hf]
    have u3 := Try.underlying3; 
    simp [Op.eqFields, part, isAgg, run_underlying u3, iW, run_equalIn_int, u3, Result.andThen]
    (repeat' split) <;> simp_all
theorem sz59 : szB Try.prog 59 true 2 = true := by kernel_rfl
theorem by59 : byB Try.prog 59 16 = true := by kernel_rfl
theorem zr59 : zrB Try.prog 59 (.agg #[.int .i64 0, .int .i64 0]) := by unfold zrB; kernel_rfl
theorem fld59_0 : fldB Try.prog 59 0 0 = true := by kernel_rfl
theorem fd59_0 : (match Try.prog.underlying 59 with | some (.struct fs) => (fs[0]?).map (fun fd => (fd.offset, fd.type)) | _ => none) = some (0, 3) := by kernel_rfl
theorem fld59_1 : fldB Try.prog 59 1 1 = true := by kernel_rfl
theorem fd59_1 : (match Try.prog.underlying 59 with | some (.struct fs) => (fs[1]?).map (fun fd => (fd.offset, fd.type)) | _ => none) = some (1, 3) := by kernel_rfl
theorem pl59 : plB Try.prog 59 [(0, 1), (1, 1)] = true := by kernel_rfl
theorem eqi59 : EqI Try.prog 59 2 := by
  intro xs ys hx hy w
  match xs, ys, hx, hy with
  | [a0, a1], [b0, b1], _, _ =>
    refine ⟨fun x y => run_eqGuard_agg w .eql 59 x y _ _ (by kernel_rfl), fun x y => run_eqGuard_agg w .neq 59 x y _ _ (by kernel_rfl), ?_⟩
    have hf : (Try.prog.fieldsOf 59).toList = [⟨ "Depth", 3, 0, false, "", "", 0⟩, ⟨ "Echo", 3, 1, false, "", "", 8⟩] := by kernel_rfl
    rw [show (10000 : Nat) = 9998 + 1 + 1 from rfl, run_equalIn_struct w (9998 + 1) 59 _ _ (by kernel_rfl) (by kernel_rfl), hf]
    have u3 := Try.underlying3; 
    simp [Op.eqFields, part, isAgg, run_underlying u3, iW, run_equalIn_int, u3, Result.andThen]
    (repeat' split) <;> simp_all
theorem sz77 : szB Try.prog 77 false 1 = true := by kernel_rfl
theorem by77 : byB Try.prog 77 24 = true := by kernel_rfl
theorem zr77 : zrB Try.prog 77 (.slice none 0 0) := by unfold zrB; kernel_rfl
theorem sl77 : slB Try.prog 77 4 1 = true := by kernel_rfl
theorem isl77 : isSl Try.prog 77 = true := by kernel_rfl
theorem sz86 : szB Try.prog 86 true 4 = true := by kernel_rfl
theorem by86 : byB Try.prog 86 56 = true := by kernel_rfl
theorem zr86 : zrB Try.prog 86 (.agg #[.string ⟨#[]⟩, .int .i64 0, .int .i64 0, .slice none 0 0]) := by unfold zrB; kernel_rfl
theorem fld86_0 : fldB Try.prog 86 0 0 = true := by kernel_rfl
theorem fd86_0 : (match Try.prog.underlying 86 with | some (.struct fs) => (fs[0]?).map (fun fd => (fd.offset, fd.type)) | _ => none) = some (0, 9) := by kernel_rfl
theorem fld86_1 : fldB Try.prog 86 1 1 = true := by kernel_rfl
theorem fd86_1 : (match Try.prog.underlying 86 with | some (.struct fs) => (fs[1]?).map (fun fd => (fd.offset, fd.type)) | _ => none) = some (1, 3) := by kernel_rfl
theorem fld86_2 : fldB Try.prog 86 2 2 = true := by kernel_rfl
theorem fd86_2 : (match Try.prog.underlying 86 with | some (.struct fs) => (fs[2]?).map (fun fd => (fd.offset, fd.type)) | _ => none) = some (2, 3) := by kernel_rfl
theorem fld86_3 : fldB Try.prog 86 3 3 = true := by kernel_rfl
theorem fd86_3 : (match Try.prog.underlying 86 with | some (.struct fs) => (fs[3]?).map (fun fd => (fd.offset, fd.type)) | _ => none) = some (3, 25) := by kernel_rfl
theorem pl86 : plB Try.prog 86 [(0, 1), (1, 1), (2, 1), (3, 1)] = true := by kernel_rfl
theorem sz87 : szB Try.prog 87 true 4 = true := by kernel_rfl
theorem by87 : byB Try.prog 87 56 = true := by kernel_rfl
theorem zr87 : zrB Try.prog 87 (.agg #[.string ⟨#[]⟩, .int .i64 0, .int .i64 0, .slice none 0 0]) := by unfold zrB; kernel_rfl
theorem fld87_0 : fldB Try.prog 87 0 0 = true := by kernel_rfl
theorem fd87_0 : (match Try.prog.underlying 87 with | some (.struct fs) => (fs[0]?).map (fun fd => (fd.offset, fd.type)) | _ => none) = some (0, 9) := by kernel_rfl
theorem fld87_1 : fldB Try.prog 87 1 1 = true := by kernel_rfl
theorem fd87_1 : (match Try.prog.underlying 87 with | some (.struct fs) => (fs[1]?).map (fun fd => (fd.offset, fd.type)) | _ => none) = some (1, 3) := by kernel_rfl
theorem fld87_2 : fldB Try.prog 87 2 2 = true := by kernel_rfl
theorem fd87_2 : (match Try.prog.underlying 87 with | some (.struct fs) => (fs[2]?).map (fun fd => (fd.offset, fd.type)) | _ => none) = some (2, 3) := by kernel_rfl
theorem fld87_3 : fldB Try.prog 87 3 3 = true := by kernel_rfl
theorem fd87_3 : (match Try.prog.underlying 87 with | some (.struct fs) => (fs[3]?).map (fun fd => (fd.offset, fd.type)) | _ => none) = some (3, 25) := by kernel_rfl
theorem pl87 : plB Try.prog 87 [(0, 1), (1, 1), (2, 1), (3, 1)] = true := by kernel_rfl
theorem sz88 : szB Try.prog 88 true 2 = true := by kernel_rfl
theorem by88 : byB Try.prog 88 16 = true := by kernel_rfl
theorem zr88 : zrB Try.prog 88 (.agg #[.int .i64 0, .int .i64 0]) := by unfold zrB; kernel_rfl
theorem ar88 : arB Try.prog 88 2 3 1 = true := by kernel_rfl
theorem sz89 : szB Try.prog 89 true 3 = true := by kernel_rfl
theorem by89 : byB Try.prog 89 24 = true := by kernel_rfl
theorem zr89 : zrB Try.prog 89 (.agg #[.int .i64 0, .int .i64 0, .int .i64 0]) := by unfold zrB; kernel_rfl
theorem fld89_0 : fldB Try.prog 89 0 0 = true := by kernel_rfl
theorem fd89_0 : (match Try.prog.underlying 89 with | some (.struct fs) => (fs[0]?).map (fun fd => (fd.offset, fd.type)) | _ => none) = some (0, 3) := by kernel_rfl
theorem fld89_1 : fldB Try.prog 89 1 1 = true := by kernel_rfl
theorem fd89_1 : (match Try.prog.underlying 89 with | some (.struct fs) => (fs[1]?).map (fun fd => (fd.offset, fd.type)) | _ => none) = some (1, 3) := by kernel_rfl
theorem fld89_2 : fldB Try.prog 89 2 2 = true := by kernel_rfl
theorem fd89_2 : (match Try.prog.underlying 89 with | some (.struct fs) => (fs[2]?).map (fun fd => (fd.offset, fd.type)) | _ => none) = some (2, 3) := by kernel_rfl
theorem pl89 : plB Try.prog 89 [(0, 1), (1, 1), (2, 1)] = true := by kernel_rfl
theorem eqi89 : EqI Try.prog 89 3 := by
  intro xs ys hx hy w
  match xs, ys, hx, hy with
  | [a0, a1, a2], [b0, b1, b2], _, _ =>
    refine ⟨fun x y => run_eqGuard_agg w .eql 89 x y _ _ (by kernel_rfl), fun x y => run_eqGuard_agg w .neq 89 x y _ _ (by kernel_rfl), ?_⟩
    have hf : (Try.prog.fieldsOf 89).toList = [⟨ "Minute", 3, 0, false, "", "", 0⟩, ⟨ "Step", 3, 1, false, "", "", 8⟩, ⟨ "Warmth", 3, 2, false, "", "", 16⟩] := by kernel_rfl
    rw [show (10000 : Nat) = 9998 + 1 + 1 from rfl, run_equalIn_struct w (9998 + 1) 89 _ _ (by kernel_rfl) (by kernel_rfl), hf]
    have u3 := Try.underlying3; 
    simp [Op.eqFields, part, isAgg, run_underlying u3, iW, run_equalIn_int, u3, Result.andThen]
    (repeat' split) <;> simp_all
theorem sz90 : szB Try.prog 90 true 3 = true := by kernel_rfl
theorem by90 : byB Try.prog 90 24 = true := by kernel_rfl
theorem zr90 : zrB Try.prog 90 (.agg #[.int .i64 0, .int .i64 0, .int .i64 0]) := by unfold zrB; kernel_rfl
theorem fld90_0 : fldB Try.prog 90 0 0 = true := by kernel_rfl
theorem fd90_0 : (match Try.prog.underlying 90 with | some (.struct fs) => (fs[0]?).map (fun fd => (fd.offset, fd.type)) | _ => none) = some (0, 3) := by kernel_rfl
theorem fld90_1 : fldB Try.prog 90 1 1 = true := by kernel_rfl
theorem fd90_1 : (match Try.prog.underlying 90 with | some (.struct fs) => (fs[1]?).map (fun fd => (fd.offset, fd.type)) | _ => none) = some (1, 3) := by kernel_rfl
theorem fld90_2 : fldB Try.prog 90 2 2 = true := by kernel_rfl
theorem fd90_2 : (match Try.prog.underlying 90 with | some (.struct fs) => (fs[2]?).map (fun fd => (fd.offset, fd.type)) | _ => none) = some (2, 3) := by kernel_rfl
theorem pl90 : plB Try.prog 90 [(0, 1), (1, 1), (2, 1)] = true := by kernel_rfl
theorem eqi90 : EqI Try.prog 90 3 := by
  intro xs ys hx hy w
  match xs, ys, hx, hy with
  | [a0, a1, a2], [b0, b1, b2], _, _ =>
    refine ⟨fun x y => run_eqGuard_agg w .eql 90 x y _ _ (by kernel_rfl), fun x y => run_eqGuard_agg w .neq 90 x y _ _ (by kernel_rfl), ?_⟩
    have hf : (Try.prog.fieldsOf 90).toList = [⟨ "Minute", 3, 0, false, "", "", 0⟩, ⟨ "Step", 3, 1, false, "", "", 8⟩, ⟨ "Warmth", 3, 2, false, "", "", 16⟩] := by kernel_rfl
    rw [show (10000 : Nat) = 9998 + 1 + 1 from rfl, run_equalIn_struct w (9998 + 1) 90 _ _ (by kernel_rfl) (by kernel_rfl), hf]
    have u3 := Try.underlying3; 
    simp [Op.eqFields, part, isAgg, run_underlying u3, iW, run_equalIn_int, u3, Result.andThen]
    (repeat' split) <;> simp_all
theorem sz93 : szB Try.prog 93 false 1 = true := by kernel_rfl
theorem by93 : byB Try.prog 93 24 = true := by kernel_rfl
theorem zr93 : zrB Try.prog 93 (.slice none 0 0) := by unfold zrB; kernel_rfl
theorem sl93 : slB Try.prog 93 105 3 = true := by kernel_rfl
theorem isl93 : isSl Try.prog 93 = true := by kernel_rfl
theorem sz103 : szB Try.prog 103 false 1 = true := by kernel_rfl
theorem by103 : byB Try.prog 103 24 = true := by kernel_rfl
theorem zr103 : zrB Try.prog 103 (.slice none 0 0) := by unfold zrB; kernel_rfl
theorem sl103 : slB Try.prog 103 88 2 = true := by kernel_rfl
theorem isl103 : isSl Try.prog 103 = true := by kernel_rfl
theorem sz104 : szB Try.prog 104 true 3 = true := by kernel_rfl
theorem by104 : byB Try.prog 104 24 = true := by kernel_rfl
theorem zr104 : zrB Try.prog 104 (.agg #[.int .i64 0, .int .i64 0, .int .i64 0]) := by unfold zrB; kernel_rfl
theorem fld104_0 : fldB Try.prog 104 0 0 = true := by kernel_rfl
theorem fd104_0 : (match Try.prog.underlying 104 with | some (.struct fs) => (fs[0]?).map (fun fd => (fd.offset, fd.type)) | _ => none) = some (0, 3) := by kernel_rfl
theorem fld104_1 : fldB Try.prog 104 1 1 = true := by kernel_rfl
theorem fd104_1 : (match Try.prog.underlying 104 with | some (.struct fs) => (fs[1]?).map (fun fd => (fd.offset, fd.type)) | _ => none) = some (1, 52) := by kernel_rfl
theorem pl104 : plB Try.prog 104 [(0, 1), (1, 2)] = true := by kernel_rfl
theorem sz105 : szB Try.prog 105 true 3 = true := by kernel_rfl
theorem by105 : byB Try.prog 105 24 = true := by kernel_rfl
theorem zr105 : zrB Try.prog 105 (.agg #[.int .i64 0, .int .i64 0, .int .i64 0]) := by unfold zrB; kernel_rfl
theorem fld105_0 : fldB Try.prog 105 0 0 = true := by kernel_rfl
theorem fd105_0 : (match Try.prog.underlying 105 with | some (.struct fs) => (fs[0]?).map (fun fd => (fd.offset, fd.type)) | _ => none) = some (0, 3) := by kernel_rfl
theorem fld105_1 : fldB Try.prog 105 1 1 = true := by kernel_rfl
theorem fd105_1 : (match Try.prog.underlying 105 with | some (.struct fs) => (fs[1]?).map (fun fd => (fd.offset, fd.type)) | _ => none) = some (1, 52) := by kernel_rfl
theorem pl105 : plB Try.prog 105 [(0, 1), (1, 2)] = true := by kernel_rfl
theorem sz107 : szB Try.prog 107 true 3 = true := by kernel_rfl
theorem by107 : byB Try.prog 107 24 = true := by kernel_rfl
theorem zr107 : zrB Try.prog 107 (.agg #[.int .i64 0, .int .i64 0, .int .i64 0]) := by unfold zrB; kernel_rfl
theorem ar107 : arB Try.prog 107 3 3 1 = true := by kernel_rfl
theorem sz115 : szB Try.prog 115 true 2 = true := by kernel_rfl
theorem by115 : byB Try.prog 115 16 = true := by kernel_rfl
theorem zr115 : zrB Try.prog 115 (.agg #[.int .i64 0, .int .i64 0]) := by unfold zrB; kernel_rfl
theorem fld115_0 : fldB Try.prog 115 0 0 = true := by kernel_rfl
theorem fd115_0 : (match Try.prog.underlying 115 with | some (.struct fs) => (fs[0]?).map (fun fd => (fd.offset, fd.type)) | _ => none) = some (0, 3) := by kernel_rfl
theorem fld115_1 : fldB Try.prog 115 1 1 = true := by kernel_rfl
theorem fd115_1 : (match Try.prog.underlying 115 with | some (.struct fs) => (fs[1]?).map (fun fd => (fd.offset, fd.type)) | _ => none) = some (1, 3) := by kernel_rfl
theorem pl115 : plB Try.prog 115 [(0, 1), (1, 1)] = true := by kernel_rfl
theorem eqi115 : EqI Try.prog 115 2 := by
  intro xs ys hx hy w
  match xs, ys, hx, hy with
  | [a0, a1], [b0, b1], _, _ =>
    refine ⟨fun x y => run_eqGuard_agg w .eql 115 x y _ _ (by kernel_rfl), fun x y => run_eqGuard_agg w .neq 115 x y _ _ (by kernel_rfl), ?_⟩
    have hf : (Try.prog.fieldsOf 115).toList = [⟨ "num", 3, 0, false, "", "couplant/couplantref06", 0⟩, ⟨ "den", 3, 1, false, "", "couplant/couplantref06", 8⟩] := by kernel_rfl
    rw [show (10000 : Nat) = 9998 + 1 + 1 from rfl, run_equalIn_struct w (9998 + 1) 115 _ _ (by kernel_rfl) (by kernel_rfl), hf]
    have u3 := Try.underlying3; 
    simp [Op.eqFields, part, isAgg, run_underlying u3, iW, run_equalIn_int, u3, Result.andThen]
    (repeat' split) <;> simp_all
theorem sz116 : szB Try.prog 116 true 2 = true := by kernel_rfl
theorem by116 : byB Try.prog 116 16 = true := by kernel_rfl
theorem zr116 : zrB Try.prog 116 (.agg #[.int .i64 0, .int .i64 0]) := by unfold zrB; kernel_rfl
theorem fld116_0 : fldB Try.prog 116 0 0 = true := by kernel_rfl
theorem fd116_0 : (match Try.prog.underlying 116 with | some (.struct fs) => (fs[0]?).map (fun fd => (fd.offset, fd.type)) | _ => none) = some (0, 3) := by kernel_rfl
theorem fld116_1 : fldB Try.prog 116 1 1 = true := by kernel_rfl
theorem fd116_1 : (match Try.prog.underlying 116 with | some (.struct fs) => (fs[1]?).map (fun fd => (fd.offset, fd.type)) | _ => none) = some (1, 3) := by kernel_rfl
theorem pl116 : plB Try.prog 116 [(0, 1), (1, 1)] = true := by kernel_rfl
theorem eqi116 : EqI Try.prog 116 2 := by
  intro xs ys hx hy w
  match xs, ys, hx, hy with
  | [a0, a1], [b0, b1], _, _ =>
    refine ⟨fun x y => run_eqGuard_agg w .eql 116 x y _ _ (by kernel_rfl), fun x y => run_eqGuard_agg w .neq 116 x y _ _ (by kernel_rfl), ?_⟩
    have hf : (Try.prog.fieldsOf 116).toList = [⟨ "num", 3, 0, false, "", "couplant/couplantref06", 0⟩, ⟨ "den", 3, 1, false, "", "couplant/couplantref06", 8⟩] := by kernel_rfl
    rw [show (10000 : Nat) = 9998 + 1 + 1 from rfl, run_equalIn_struct w (9998 + 1) 116 _ _ (by kernel_rfl) (by kernel_rfl), hf]
    have u3 := Try.underlying3; 
    simp [Op.eqFields, part, isAgg, run_underlying u3, iW, run_equalIn_int, u3, Result.andThen]
    (repeat' split) <;> simp_all
theorem sz122 : szB Try.prog 122 false 1 = true := by kernel_rfl
theorem by122 : byB Try.prog 122 8 = true := by kernel_rfl
theorem zr122 : zrB Try.prog 122 (.pointer none) := by unfold zrB; kernel_rfl
theorem sz129 : szB Try.prog 129 true 2 = true := by kernel_rfl
theorem by129 : byB Try.prog 129 16 = true := by kernel_rfl
theorem zr129 : zrB Try.prog 129 (.agg #[.int .i64 0, .int .i64 0]) := by unfold zrB; kernel_rfl
theorem fld129_0 : fldB Try.prog 129 0 0 = true := by kernel_rfl
theorem fd129_0 : (match Try.prog.underlying 129 with | some (.struct fs) => (fs[0]?).map (fun fd => (fd.offset, fd.type)) | _ => none) = some (0, 3) := by kernel_rfl
theorem fld129_1 : fldB Try.prog 129 1 1 = true := by kernel_rfl
theorem fd129_1 : (match Try.prog.underlying 129 with | some (.struct fs) => (fs[1]?).map (fun fd => (fd.offset, fd.type)) | _ => none) = some (1, 3) := by kernel_rfl
theorem pl129 : plB Try.prog 129 [(0, 1), (1, 1)] = true := by kernel_rfl
theorem eqi129 : EqI Try.prog 129 2 := by
  intro xs ys hx hy w
  match xs, ys, hx, hy with
  | [a0, a1], [b0, b1], _, _ =>
    refine ⟨fun x y => run_eqGuard_agg w .eql 129 x y _ _ (by kernel_rfl), fun x y => run_eqGuard_agg w .neq 129 x y _ _ (by kernel_rfl), ?_⟩
    have hf : (Try.prog.fieldsOf 129).toList = [⟨ "num", 3, 0, false, "", "couplant/tune", 0⟩, ⟨ "den", 3, 1, false, "", "couplant/tune", 8⟩] := by kernel_rfl
    rw [show (10000 : Nat) = 9998 + 1 + 1 from rfl, run_equalIn_struct w (9998 + 1) 129 _ _ (by kernel_rfl) (by kernel_rfl), hf]
    have u3 := Try.underlying3; 
    simp [Op.eqFields, part, isAgg, run_underlying u3, iW, run_equalIn_int, u3, Result.andThen]
    (repeat' split) <;> simp_all
theorem sz130 : szB Try.prog 130 true 2 = true := by kernel_rfl
theorem by130 : byB Try.prog 130 16 = true := by kernel_rfl
theorem zr130 : zrB Try.prog 130 (.agg #[.int .i64 0, .int .i64 0]) := by unfold zrB; kernel_rfl
theorem fld130_0 : fldB Try.prog 130 0 0 = true := by kernel_rfl
theorem fd130_0 : (match Try.prog.underlying 130 with | some (.struct fs) => (fs[0]?).map (fun fd => (fd.offset, fd.type)) | _ => none) = some (0, 3) := by kernel_rfl
theorem fld130_1 : fldB Try.prog 130 1 1 = true := by kernel_rfl
theorem fd130_1 : (match Try.prog.underlying 130 with | some (.struct fs) => (fs[1]?).map (fun fd => (fd.offset, fd.type)) | _ => none) = some (1, 3) := by kernel_rfl
theorem pl130 : plB Try.prog 130 [(0, 1), (1, 1)] = true := by kernel_rfl
theorem eqi130 : EqI Try.prog 130 2 := by
  intro xs ys hx hy w
  match xs, ys, hx, hy with
  | [a0, a1], [b0, b1], _, _ =>
    refine ⟨fun x y => run_eqGuard_agg w .eql 130 x y _ _ (by kernel_rfl), fun x y => run_eqGuard_agg w .neq 130 x y _ _ (by kernel_rfl), ?_⟩
    have hf : (Try.prog.fieldsOf 130).toList = [⟨ "num", 3, 0, false, "", "couplant/tune", 0⟩, ⟨ "den", 3, 1, false, "", "couplant/tune", 8⟩] := by kernel_rfl
    rw [show (10000 : Nat) = 9998 + 1 + 1 from rfl, run_equalIn_struct w (9998 + 1) 130 _ _ (by kernel_rfl) (by kernel_rfl), hf]
    have u3 := Try.underlying3; 
    simp [Op.eqFields, part, isAgg, run_underlying u3, iW, run_equalIn_int, u3, Result.andThen]
    (repeat' split) <;> simp_all
theorem sz144 : szB Try.prog 144 false 1 = true := by kernel_rfl
theorem by144 : byB Try.prog 144 24 = true := by kernel_rfl
theorem zr144 : zrB Try.prog 144 (.slice none 0 0) := by unfold zrB; kernel_rfl
theorem sl144 : slB Try.prog 144 105 3 = true := by kernel_rfl
theorem isl144 : isSl Try.prog 144 = true := by kernel_rfl
theorem sz157 : szB Try.prog 157 false 1 = true := by kernel_rfl
theorem by157 : byB Try.prog 157 24 = true := by kernel_rfl
theorem zr157 : zrB Try.prog 157 (.slice none 0 0) := by unfold zrB; kernel_rfl
theorem sl157 : slB Try.prog 157 5 1 = true := by kernel_rfl
theorem isl157 : isSl Try.prog 157 = true := by kernel_rfl
theorem sz160 : szB Try.prog 160 false 1 = true := by kernel_rfl
theorem by160 : byB Try.prog 160 24 = true := by kernel_rfl
theorem zr160 : zrB Try.prog 160 (.slice none 0 0) := by unfold zrB; kernel_rfl
theorem sl160 : slB Try.prog 160 163 4 = true := by kernel_rfl
theorem isl160 : isSl Try.prog 160 = true := by kernel_rfl
theorem sz162 : szB Try.prog 162 true 4 = true := by kernel_rfl
theorem by162 : byB Try.prog 162 24 = true := by kernel_rfl
theorem zr162 : zrB Try.prog 162 (.agg #[.bool false, .bool false, .int .i64 0, .int .i64 0]) := by unfold zrB; kernel_rfl
theorem fld162_0 : fldB Try.prog 162 0 0 = true := by kernel_rfl
theorem fd162_0 : (match Try.prog.underlying 162 with | some (.struct fs) => (fs[0]?).map (fun fd => (fd.offset, fd.type)) | _ => none) = some (0, 4) := by kernel_rfl
theorem fld162_1 : fldB Try.prog 162 1 1 = true := by kernel_rfl
theorem fd162_1 : (match Try.prog.underlying 162 with | some (.struct fs) => (fs[1]?).map (fun fd => (fd.offset, fd.type)) | _ => none) = some (1, 4) := by kernel_rfl
theorem fld162_2 : fldB Try.prog 162 2 2 = true := by kernel_rfl
theorem fd162_2 : (match Try.prog.underlying 162 with | some (.struct fs) => (fs[2]?).map (fun fd => (fd.offset, fd.type)) | _ => none) = some (2, 3) := by kernel_rfl
theorem fld162_3 : fldB Try.prog 162 3 3 = true := by kernel_rfl
theorem fd162_3 : (match Try.prog.underlying 162 with | some (.struct fs) => (fs[3]?).map (fun fd => (fd.offset, fd.type)) | _ => none) = some (3, 3) := by kernel_rfl
theorem pl162 : plB Try.prog 162 [(0, 1), (1, 1), (2, 1), (3, 1)] = true := by kernel_rfl
theorem sz163 : szB Try.prog 163 true 4 = true := by kernel_rfl
theorem by163 : byB Try.prog 163 24 = true := by kernel_rfl
theorem zr163 : zrB Try.prog 163 (.agg #[.bool false, .bool false, .int .i64 0, .int .i64 0]) := by unfold zrB; kernel_rfl
theorem fld163_0 : fldB Try.prog 163 0 0 = true := by kernel_rfl
theorem fd163_0 : (match Try.prog.underlying 163 with | some (.struct fs) => (fs[0]?).map (fun fd => (fd.offset, fd.type)) | _ => none) = some (0, 4) := by kernel_rfl
theorem fld163_1 : fldB Try.prog 163 1 1 = true := by kernel_rfl
theorem fd163_1 : (match Try.prog.underlying 163 with | some (.struct fs) => (fs[1]?).map (fun fd => (fd.offset, fd.type)) | _ => none) = some (1, 4) := by kernel_rfl
theorem fld163_2 : fldB Try.prog 163 2 2 = true := by kernel_rfl
theorem fd163_2 : (match Try.prog.underlying 163 with | some (.struct fs) => (fs[2]?).map (fun fd => (fd.offset, fd.type)) | _ => none) = some (2, 3) := by kernel_rfl
theorem fld163_3 : fldB Try.prog 163 3 3 = true := by kernel_rfl
theorem fd163_3 : (match Try.prog.underlying 163 with | some (.struct fs) => (fs[3]?).map (fun fd => (fd.offset, fd.type)) | _ => none) = some (3, 3) := by kernel_rfl
theorem pl163 : plB Try.prog 163 [(0, 1), (1, 1), (2, 1), (3, 1)] = true := by kernel_rfl
theorem sz164 : szB Try.prog 164 true 2 = true := by kernel_rfl
theorem by164 : byB Try.prog 164 48 = true := by kernel_rfl
theorem zr164 : zrB Try.prog 164 (.agg #[.slice none 0 0, .slice none 0 0]) := by unfold zrB; kernel_rfl
theorem fld164_0 : fldB Try.prog 164 0 0 = true := by kernel_rfl
theorem fd164_0 : (match Try.prog.underlying 164 with | some (.struct fs) => (fs[0]?).map (fun fd => (fd.offset, fd.type)) | _ => none) = some (0, 40) := by kernel_rfl
theorem fld164_1 : fldB Try.prog 164 1 1 = true := by kernel_rfl
theorem fd164_1 : (match Try.prog.underlying 164 with | some (.struct fs) => (fs[1]?).map (fun fd => (fd.offset, fd.type)) | _ => none) = some (1, 160) := by kernel_rfl
theorem pl164 : plB Try.prog 164 [(0, 1), (1, 1)] = true := by kernel_rfl
theorem sz165 : szB Try.prog 165 true 2 = true := by kernel_rfl
theorem by165 : byB Try.prog 165 48 = true := by kernel_rfl
theorem zr165 : zrB Try.prog 165 (.agg #[.slice none 0 0, .slice none 0 0]) := by unfold zrB; kernel_rfl
theorem fld165_0 : fldB Try.prog 165 0 0 = true := by kernel_rfl
theorem fd165_0 : (match Try.prog.underlying 165 with | some (.struct fs) => (fs[0]?).map (fun fd => (fd.offset, fd.type)) | _ => none) = some (0, 40) := by kernel_rfl
theorem fld165_1 : fldB Try.prog 165 1 1 = true := by kernel_rfl
theorem fd165_1 : (match Try.prog.underlying 165 with | some (.struct fs) => (fs[1]?).map (fun fd => (fd.offset, fd.type)) | _ => none) = some (1, 160) := by kernel_rfl
theorem pl165 : plB Try.prog 165 [(0, 1), (1, 1)] = true := by kernel_rfl
theorem sz167 : szB Try.prog 167 false 1 = true := by kernel_rfl
theorem by167 : byB Try.prog 167 24 = true := by kernel_rfl
theorem zr167 : zrB Try.prog 167 (.slice none 0 0) := by unfold zrB; kernel_rfl
theorem sl167 : slB Try.prog 167 26 1 = true := by kernel_rfl
theorem isl167 : isSl Try.prog 167 = true := by kernel_rfl
theorem sz176 : szB Try.prog 176 false 1 = true := by kernel_rfl
theorem by176 : byB Try.prog 176 8 = true := by kernel_rfl
theorem zr176 : zrB Try.prog 176 (.pointer none) := by unfold zrB; kernel_rfl
theorem sz180 : szB Try.prog 180 true 4 = true := by kernel_rfl
theorem by180 : byB Try.prog 180 40 = true := by kernel_rfl
theorem zr180 : zrB Try.prog 180 (.agg #[.pointer none, .pointer none, .pointer none, .string ⟨#[]⟩]) := by unfold zrB; kernel_rfl
theorem fld180_0 : fldB Try.prog 180 0 0 = true := by kernel_rfl
theorem fd180_0 : (match Try.prog.underlying 180 with | some (.struct fs) => (fs[0]?).map (fun fd => (fd.offset, fd.type)) | _ => none) = some (0, 17) := by kernel_rfl
theorem fld180_1 : fldB Try.prog 180 1 1 = true := by kernel_rfl
theorem fd180_1 : (match Try.prog.underlying 180 with | some (.struct fs) => (fs[1]?).map (fun fd => (fd.offset, fd.type)) | _ => none) = some (1, 17) := by kernel_rfl
theorem fld180_2 : fldB Try.prog 180 2 2 = true := by kernel_rfl
theorem fd180_2 : (match Try.prog.underlying 180 with | some (.struct fs) => (fs[2]?).map (fun fd => (fd.offset, fd.type)) | _ => none) = some (2, 17) := by kernel_rfl
theorem fld180_3 : fldB Try.prog 180 3 3 = true := by kernel_rfl
theorem fd180_3 : (match Try.prog.underlying 180 with | some (.struct fs) => (fs[3]?).map (fun fd => (fd.offset, fd.type)) | _ => none) = some (3, 9) := by kernel_rfl
theorem pl180 : plB Try.prog 180 [(0, 1), (1, 1), (2, 1), (3, 1)] = true := by kernel_rfl
theorem sz181 : szB Try.prog 181 true 4 = true := by kernel_rfl
theorem by181 : byB Try.prog 181 40 = true := by kernel_rfl
theorem zr181 : zrB Try.prog 181 (.agg #[.pointer none, .pointer none, .pointer none, .string ⟨#[]⟩]) := by unfold zrB; kernel_rfl
theorem fld181_0 : fldB Try.prog 181 0 0 = true := by kernel_rfl
theorem fd181_0 : (match Try.prog.underlying 181 with | some (.struct fs) => (fs[0]?).map (fun fd => (fd.offset, fd.type)) | _ => none) = some (0, 17) := by kernel_rfl
theorem fld181_1 : fldB Try.prog 181 1 1 = true := by kernel_rfl
theorem fd181_1 : (match Try.prog.underlying 181 with | some (.struct fs) => (fs[1]?).map (fun fd => (fd.offset, fd.type)) | _ => none) = some (1, 17) := by kernel_rfl
theorem fld181_2 : fldB Try.prog 181 2 2 = true := by kernel_rfl
theorem fd181_2 : (match Try.prog.underlying 181 with | some (.struct fs) => (fs[2]?).map (fun fd => (fd.offset, fd.type)) | _ => none) = some (2, 17) := by kernel_rfl
theorem fld181_3 : fldB Try.prog 181 3 3 = true := by kernel_rfl
theorem fd181_3 : (match Try.prog.underlying 181 with | some (.struct fs) => (fs[3]?).map (fun fd => (fd.offset, fd.type)) | _ => none) = some (3, 9) := by kernel_rfl
theorem pl181 : plB Try.prog 181 [(0, 1), (1, 1), (2, 1), (3, 1)] = true := by kernel_rfl
theorem sz182 : szB Try.prog 182 true 0 = true := by kernel_rfl
theorem by182 : byB Try.prog 182 0 = true := by kernel_rfl
theorem zr182 : zrB Try.prog 182 (.agg #[]) := by unfold zrB; kernel_rfl
theorem ar182 : arB Try.prog 182 0 16 1 = true := by kernel_rfl
theorem sz183 : szB Try.prog 183 true 0 = true := by kernel_rfl
theorem by183 : byB Try.prog 183 0 = true := by kernel_rfl
theorem zr183 : zrB Try.prog 183 (.agg #[]) := by unfold zrB; kernel_rfl
theorem fd183_0 : (match Try.prog.underlying 183 with | some (.struct fs) => (fs[0]?).map (fun fd => (fd.offset, fd.type)) | _ => none) = some (0, 182) := by kernel_rfl
theorem pl183 : plB Try.prog 183 [(0, 0)] = true := by kernel_rfl
theorem sz184 : szB Try.prog 184 true 0 = true := by kernel_rfl
theorem by184 : byB Try.prog 184 0 = true := by kernel_rfl
theorem zr184 : zrB Try.prog 184 (.agg #[]) := by unfold zrB; kernel_rfl
theorem fd184_0 : (match Try.prog.underlying 184 with | some (.struct fs) => (fs[0]?).map (fun fd => (fd.offset, fd.type)) | _ => none) = some (0, 182) := by kernel_rfl
theorem pl184 : plB Try.prog 184 [(0, 0)] = true := by kernel_rfl
theorem sz186 : szB Try.prog 186 false 1 = true := by kernel_rfl
theorem by186 : byB Try.prog 186 4 = true := by kernel_rfl
theorem zr186 : zrB Try.prog 186 (.int .u32 0) := by unfold zrB; kernel_rfl
theorem int186 : intB Try.prog 186 .u32 = true := by kernel_rfl
theorem sz187 : szB Try.prog 187 false 1 = true := by kernel_rfl
theorem by187 : byB Try.prog 187 1 = true := by kernel_rfl
theorem zr187 : zrB Try.prog 187 (.int .u8 0) := by unfold zrB; kernel_rfl
theorem int187 : intB Try.prog 187 .u8 = true := by kernel_rfl
theorem sz188 : szB Try.prog 188 false 1 = true := by kernel_rfl
theorem by188 : byB Try.prog 188 1 = true := by kernel_rfl
theorem zr188 : zrB Try.prog 188 (.int .u8 0) := by unfold zrB; kernel_rfl
theorem int188 : intB Try.prog 188 .u8 = true := by kernel_rfl
theorem sz190 : szB Try.prog 190 false 1 = true := by kernel_rfl
theorem by190 : byB Try.prog 190 8 = true := by kernel_rfl
theorem zr190 : zrB Try.prog 190 (.pointer none) := by unfold zrB; kernel_rfl
theorem sz191 : szB Try.prog 191 false 1 = true := by kernel_rfl
theorem by191 : byB Try.prog 191 4 = true := by kernel_rfl
theorem zr191 : zrB Try.prog 191 (.int .i32 0) := by unfold zrB; kernel_rfl
theorem int191 : intB Try.prog 191 .i32 = true := by kernel_rfl
theorem sz192 : szB Try.prog 192 false 1 = true := by kernel_rfl
theorem by192 : byB Try.prog 192 4 = true := by kernel_rfl
theorem zr192 : zrB Try.prog 192 (.int .i32 0) := by unfold zrB; kernel_rfl
theorem int192 : intB Try.prog 192 .i32 = true := by kernel_rfl
theorem sz193 : szB Try.prog 193 true 11 = true := by kernel_rfl
theorem by193 : byB Try.prog 193 48 = true := by kernel_rfl
theorem zr193 : zrB Try.prog 193 (.agg #[.int .u64 0, .int .u64 0, .int .u32 0, .int .u8 0, .int .u8 0, .int .u8 0, .int .u8 0, .nilFunc, .pointer none, .int .i32 0, .int .i32 0]) := by unfold zrB; kernel_rfl
theorem fld193_0 : fldB Try.prog 193 0 0 = true := by kernel_rfl
theorem fd193_0 : (match Try.prog.underlying 193 with | some (.struct fs) => (fs[0]?).map (fun fd => (fd.offset, fd.type)) | _ => none) = some (0, 12) := by kernel_rfl
theorem fld193_1 : fldB Try.prog 193 1 1 = true := by kernel_rfl
theorem fd193_1 : (match Try.prog.underlying 193 with | some (.struct fs) => (fs[1]?).map (fun fd => (fd.offset, fd.type)) | _ => none) = some (1, 12) := by kernel_rfl
theorem fld193_2 : fldB Try.prog 193 2 2 = true := by kernel_rfl
theorem fd193_2 : (match Try.prog.underlying 193 with | some (.struct fs) => (fs[2]?).map (fun fd => (fd.offset, fd.type)) | _ => none) = some (2, 186) := by kernel_rfl
theorem fld193_3 : fldB Try.prog 193 3 3 = true := by kernel_rfl
theorem fd193_3 : (match Try.prog.underlying 193 with | some (.struct fs) => (fs[3]?).map (fun fd => (fd.offset, fd.type)) | _ => none) = some (3, 187) := by kernel_rfl
theorem fld193_4 : fldB Try.prog 193 4 4 = true := by kernel_rfl
theorem fd193_4 : (match Try.prog.underlying 193 with | some (.struct fs) => (fs[4]?).map (fun fd => (fd.offset, fd.type)) | _ => none) = some (4, 5) := by kernel_rfl
theorem fld193_5 : fldB Try.prog 193 5 5 = true := by kernel_rfl
theorem fd193_5 : (match Try.prog.underlying 193 with | some (.struct fs) => (fs[5]?).map (fun fd => (fd.offset, fd.type)) | _ => none) = some (5, 5) := by kernel_rfl
theorem fld193_6 : fldB Try.prog 193 6 6 = true := by kernel_rfl
theorem fd193_6 : (match Try.prog.underlying 193 with | some (.struct fs) => (fs[6]?).map (fun fd => (fd.offset, fd.type)) | _ => none) = some (6, 188) := by kernel_rfl
theorem fld193_7 : fldB Try.prog 193 7 7 = true := by kernel_rfl
theorem fd193_7 : (match Try.prog.underlying 193 with | some (.struct fs) => (fs[7]?).map (fun fd => (fd.offset, fd.type)) | _ => none) = some (7, 189) := by kernel_rfl
theorem fld193_8 : fldB Try.prog 193 8 8 = true := by kernel_rfl
theorem fd193_8 : (match Try.prog.underlying 193 with | some (.struct fs) => (fs[8]?).map (fun fd => (fd.offset, fd.type)) | _ => none) = some (8, 190) := by kernel_rfl
theorem fld193_9 : fldB Try.prog 193 9 9 = true := by kernel_rfl
theorem fd193_9 : (match Try.prog.underlying 193 with | some (.struct fs) => (fs[9]?).map (fun fd => (fd.offset, fd.type)) | _ => none) = some (9, 191) := by kernel_rfl
theorem fld193_10 : fldB Try.prog 193 10 10 = true := by kernel_rfl
theorem fd193_10 : (match Try.prog.underlying 193 with | some (.struct fs) => (fs[10]?).map (fun fd => (fd.offset, fd.type)) | _ => none) = some (10, 192) := by kernel_rfl
theorem pl193 : plB Try.prog 193 [(0, 1), (1, 1), (2, 1), (3, 1), (4, 1), (5, 1), (6, 1), (7, 1), (8, 1), (9, 1), (10, 1)] = true := by kernel_rfl
theorem sz194 : szB Try.prog 194 true 11 = true := by kernel_rfl
theorem by194 : byB Try.prog 194 48 = true := by kernel_rfl
theorem zr194 : zrB Try.prog 194 (.agg #[.int .u64 0, .int .u64 0, .int .u32 0, .int .u8 0, .int .u8 0, .int .u8 0, .int .u8 0, .nilFunc, .pointer none, .int .i32 0, .int .i32 0]) := by unfold zrB; kernel_rfl
theorem fld194_0 : fldB Try.prog 194 0 0 = true := by kernel_rfl
theorem fd194_0 : (match Try.prog.underlying 194 with | some (.struct fs) => (fs[0]?).map (fun fd => (fd.offset, fd.type)) | _ => none) = some (0, 12) := by kernel_rfl
theorem fld194_1 : fldB Try.prog 194 1 1 = true := by kernel_rfl
theorem fd194_1 : (match Try.prog.underlying 194 with | some (.struct fs) => (fs[1]?).map (fun fd => (fd.offset, fd.type)) | _ => none) = some (1, 12) := by kernel_rfl
theorem fld194_2 : fldB Try.prog 194 2 2 = true := by kernel_rfl
theorem fd194_2 : (match Try.prog.underlying 194 with | some (.struct fs) => (fs[2]?).map (fun fd => (fd.offset, fd.type)) | _ => none) = some (2, 186) := by kernel_rfl
theorem fld194_3 : fldB Try.prog 194 3 3 = true := by kernel_rfl
theorem fd194_3 : (match Try.prog.underlying 194 with | some (.struct fs) => (fs[3]?).map (fun fd => (fd.offset, fd.type)) | _ => none) = some (3, 187) := by kernel_rfl
theorem fld194_4 : fldB Try.prog 194 4 4 = true := by kernel_rfl
theorem fd194_4 : (match Try.prog.underlying 194 with | some (.struct fs) => (fs[4]?).map (fun fd => (fd.offset, fd.type)) | _ => none) = some (4, 5) := by kernel_rfl
theorem fld194_5 : fldB Try.prog 194 5 5 = true := by kernel_rfl
theorem fd194_5 : (match Try.prog.underlying 194 with | some (.struct fs) => (fs[5]?).map (fun fd => (fd.offset, fd.type)) | _ => none) = some (5, 5) := by kernel_rfl
theorem fld194_6 : fldB Try.prog 194 6 6 = true := by kernel_rfl
theorem fd194_6 : (match Try.prog.underlying 194 with | some (.struct fs) => (fs[6]?).map (fun fd => (fd.offset, fd.type)) | _ => none) = some (6, 188) := by kernel_rfl
theorem fld194_7 : fldB Try.prog 194 7 7 = true := by kernel_rfl
theorem fd194_7 : (match Try.prog.underlying 194 with | some (.struct fs) => (fs[7]?).map (fun fd => (fd.offset, fd.type)) | _ => none) = some (7, 189) := by kernel_rfl
theorem fld194_8 : fldB Try.prog 194 8 8 = true := by kernel_rfl
theorem fd194_8 : (match Try.prog.underlying 194 with | some (.struct fs) => (fs[8]?).map (fun fd => (fd.offset, fd.type)) | _ => none) = some (8, 190) := by kernel_rfl
theorem fld194_9 : fldB Try.prog 194 9 9 = true := by kernel_rfl
theorem fd194_9 : (match Try.prog.underlying 194 with | some (.struct fs) => (fs[9]?).map (fun fd => (fd.offset, fd.type)) | _ => none) = some (9, 191) := by kernel_rfl
theorem fld194_10 : fldB Try.prog 194 10 10 = true := by kernel_rfl
theorem fd194_10 : (match Try.prog.underlying 194 with | some (.struct fs) => (fs[10]?).map (fun fd => (fd.offset, fd.type)) | _ => none) = some (10, 192) := by kernel_rfl
theorem pl194 : plB Try.prog 194 [(0, 1), (1, 1), (2, 1), (3, 1), (4, 1), (5, 1), (6, 1), (7, 1), (8, 1), (9, 1), (10, 1)] = true := by kernel_rfl
theorem sz195 : szB Try.prog 195 false 1 = true := by kernel_rfl
theorem by195 : byB Try.prog 195 8 = true := by kernel_rfl
theorem zr195 : zrB Try.prog 195 (.pointer none) := by unfold zrB; kernel_rfl
end Go.Proofs.Ytgdcidbpadhkpaa.Am
