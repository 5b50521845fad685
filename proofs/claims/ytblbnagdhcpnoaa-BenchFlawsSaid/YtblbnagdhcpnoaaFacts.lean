/- Closed facts of the program's types and functions. Conditions: none. -/
import Derived.Test.YtblbnagdhcpnoaaRows
import Derived.Test.YtblbnagdhcpnoaaAmD
import Derived.ChangeKeysEq
set_option linter.unusedVariables false
set_option linter.unusedSimpArgs false
namespace Go.Proofs.Ytblbnagdhcpnoaa.Am
open Go
theorem mixed : Try.prog.follows .mixedOrders = true := by kernel_rfl
theorem en2 : enB Try.prog 2 = true := by kernel_rfl
theorem en3 : enB Try.prog 3 = true := by kernel_rfl
theorem en4 : enB Try.prog 4 = true := by kernel_rfl
theorem en5 : enB Try.prog 5 = true := by kernel_rfl
theorem en6 : enB Try.prog 6 = true := by kernel_rfl
theorem en7 : enB Try.prog 7 = true := by kernel_rfl
theorem en8 : enB Try.prog 8 = true := by kernel_rfl
theorem en9 : enB Try.prog 9 = true := by kernel_rfl
theorem en10 : enB Try.prog 10 = true := by kernel_rfl
theorem en11 : enB Try.prog 11 = true := by kernel_rfl
theorem en12 : enB Try.prog 12 = true := by kernel_rfl
theorem en13 : enB Try.prog 13 = true := by kernel_rfl
theorem en14 : enB Try.prog 14 = true := by kernel_rfl
theorem en15 : enB Try.prog 15 = true := by kernel_rfl
theorem en16 : enB Try.prog 16 = true := by kernel_rfl
theorem en17 : enB Try.prog 17 = true := by kernel_rfl
theorem en18 : enB Try.prog 18 = true := by kernel_rfl
theorem en19 : enB Try.prog 19 = true := by kernel_rfl
theorem en20 : enB Try.prog 20 = true := by kernel_rfl
theorem en21 : enB Try.prog 21 = true := by kernel_rfl
theorem en22 : enB Try.prog 22 = true := by kernel_rfl
theorem en23 : enB Try.prog 23 = true := by kernel_rfl
theorem en24 : enB Try.prog 24 = true := by kernel_rfl
theorem en25 : enB Try.prog 25 = true := by kernel_rfl
theorem en26 : enB Try.prog 26 = true := by kernel_rfl
theorem en27 : enB Try.prog 27 = true := by kernel_rfl
theorem en28 : enB Try.prog 28 = true := by kernel_rfl
theorem en29 : enB Try.prog 29 = true := by kernel_rfl
theorem en30 : enB Try.prog 30 = true := by kernel_rfl
theorem en31 : enB Try.prog 31 = true := by kernel_rfl
theorem en32 : enB Try.prog 32 = true := by kernel_rfl
theorem en33 : enB Try.prog 33 = true := by kernel_rfl
theorem en34 : enB Try.prog 34 = true := by kernel_rfl
theorem en35 : enB Try.prog 35 = true := by kernel_rfl
theorem en36 : enB Try.prog 36 = true := by kernel_rfl
theorem en37 : enB Try.prog 37 = true := by kernel_rfl
theorem en38 : enB Try.prog 38 = true := by kernel_rfl
theorem en39 : enB Try.prog 39 = true := by kernel_rfl
theorem en40 : enB Try.prog 40 = true := by kernel_rfl
theorem en41 : enB Try.prog 41 = true := by kernel_rfl
theorem en42 : enB Try.prog 42 = true := by kernel_rfl
theorem en43 : enB Try.prog 43 = true := by kernel_rfl
theorem en44 : enB Try.prog 44 = true := by kernel_rfl
theorem en45 : enB Try.prog 45 = true := by kernel_rfl
theorem en46 : enB Try.prog 46 = true := by kernel_rfl
theorem en47 : enB Try.prog 47 = true := by kernel_rfl
theorem en48 : enB Try.prog 48 = true := by kernel_rfl
theorem en49 : enB Try.prog 49 = true := by kernel_rfl
theorem en50 : enB Try.prog 50 = true := by kernel_rfl
theorem en51 : enB Try.prog 51 = true := by kernel_rfl
theorem en52 : enB Try.prog 52 = true := by kernel_rfl
theorem en53 : enB Try.prog 53 = true := by kernel_rfl
theorem en54 : enB Try.prog 54 = true := by kernel_rfl
theorem en55 : enB Try.prog 55 = true := by kernel_rfl
theorem en56 : enB Try.prog 56 = true := by kernel_rfl
theorem en57 : enB Try.prog 57 = true := by kernel_rfl
theorem en58 : enB Try.prog 58 = true := by kernel_rfl
theorem en59 : enB Try.prog 59 = true := by kernel_rfl
theorem en60 : enB Try.prog 60 = true := by kernel_rfl
theorem en61 : enB Try.prog 61 = true := by kernel_rfl
theorem en62 : enB Try.prog 62 = true := by kernel_rfl
theorem en63 : enB Try.prog 63 = true := by kernel_rfl
theorem en64 : enB Try.prog 64 = true := by kernel_rfl
theorem en65 : enB Try.prog 65 = true := by kernel_rfl
theorem en66 : enB Try.prog 66 = true := by kernel_rfl
theorem en67 : enB Try.prog 67 = true := by kernel_rfl
theorem en68 : enB Try.prog 68 = true := by kernel_rfl
theorem en69 : enB Try.prog 69 = true := by kernel_rfl
theorem en70 : enB Try.prog 70 = true := by kernel_rfl
theorem en71 : enB Try.prog 71 = true := by kernel_rfl
theorem en72 : enB Try.prog 72 = true := by kernel_rfl
theorem en73 : enB Try.prog 73 = true := by kernel_rfl
theorem en74 : enB Try.prog 74 = true := by kernel_rfl
theorem en75 : enB Try.prog 75 = true := by kernel_rfl
theorem en76 : enB Try.prog 76 = true := by kernel_rfl
theorem en77 : enB Try.prog 77 = true := by kernel_rfl
theorem en78 : enB Try.prog 78 = true := by kernel_rfl
theorem en79 : enB Try.prog 79 = true := by kernel_rfl
theorem en80 : enB Try.prog 80 = true := by kernel_rfl
theorem en81 : enB Try.prog 81 = true := by kernel_rfl
theorem en82 : enB Try.prog 82 = true := by kernel_rfl
theorem en83 : enB Try.prog 83 = true := by kernel_rfl
theorem en84 : enB Try.prog 84 = true := by kernel_rfl
theorem en85 : enB Try.prog 85 = true := by kernel_rfl
theorem en86 : enB Try.prog 86 = true := by kernel_rfl
theorem en87 : enB Try.prog 87 = true := by kernel_rfl
theorem en88 : enB Try.prog 88 = true := by kernel_rfl
theorem en89 : enB Try.prog 89 = true := by kernel_rfl
theorem en90 : enB Try.prog 90 = true := by kernel_rfl
theorem en91 : enB Try.prog 91 = true := by kernel_rfl
theorem en92 : enB Try.prog 92 = true := by kernel_rfl
theorem en93 : enB Try.prog 93 = true := by kernel_rfl
theorem en94 : enB Try.prog 94 = true := by kernel_rfl
theorem en95 : enB Try.prog 95 = true := by kernel_rfl
theorem en96 : enB Try.prog 96 = true := by kernel_rfl
theorem en97 : enB Try.prog 97 = true := by kernel_rfl
theorem en98 : enB Try.prog 98 = true := by kernel_rfl
theorem en99 : enB Try.prog 99 = true := by kernel_rfl
theorem en100 : enB Try.prog 100 = true := by kernel_rfl
theorem en101 : enB Try.prog 101 = true := by kernel_rfl
theorem en102 : enB Try.prog 102 = true := by kernel_rfl
theorem en103 : enB Try.prog 103 = true := by kernel_rfl
theorem en104 : enB Try.prog 104 = true := by kernel_rfl
theorem en105 : enB Try.prog 105 = true := by kernel_rfl
theorem en106 : enB Try.prog 106 = true := by kernel_rfl
theorem en107 : enB Try.prog 107 = true := by kernel_rfl
theorem en108 : enB Try.prog 108 = true := by kernel_rfl
theorem en110 : enB Try.prog 110 = true := by kernel_rfl
theorem en111 : enB Try.prog 111 = true := by kernel_rfl
theorem en112 : enB Try.prog 112 = true := by kernel_rfl
theorem en113 : enB Try.prog 113 = true := by kernel_rfl
theorem en114 : enB Try.prog 114 = true := by kernel_rfl
theorem en115 : enB Try.prog 115 = true := by kernel_rfl
theorem en116 : enB Try.prog 116 = true := by kernel_rfl
theorem en117 : enB Try.prog 117 = true := by kernel_rfl
theorem en118 : enB Try.prog 118 = true := by kernel_rfl
theorem en119 : enB Try.prog 119 = true := by kernel_rfl
theorem en120 : enB Try.prog 120 = true := by kernel_rfl
theorem en121 : enB Try.prog 121 = true := by kernel_rfl
theorem en122 : enB Try.prog 122 = true := by kernel_rfl
theorem en123 : enB Try.prog 123 = true := by kernel_rfl
theorem en124 : enB Try.prog 124 = true := by kernel_rfl
theorem en125 : enB Try.prog 125 = true := by kernel_rfl
theorem en126 : enB Try.prog 126 = true := by kernel_rfl
theorem en127 : enB Try.prog 127 = true := by kernel_rfl
theorem en128 : enB Try.prog 128 = true := by kernel_rfl
theorem en129 : enB Try.prog 129 = true := by kernel_rfl
theorem en130 : enB Try.prog 130 = true := by kernel_rfl
theorem en131 : enB Try.prog 131 = true := by kernel_rfl
theorem en132 : enB Try.prog 132 = true := by kernel_rfl
theorem en133 : enB Try.prog 133 = true := by kernel_rfl
theorem en134 : enB Try.prog 134 = true := by kernel_rfl
theorem en135 : enB Try.prog 135 = true := by kernel_rfl
theorem en136 : enB Try.prog 136 = true := by kernel_rfl
theorem en137 : enB Try.prog 137 = true := by kernel_rfl
theorem en138 : enB Try.prog 138 = true := by kernel_rfl
theorem en139 : enB Try.prog 139 = true := by kernel_rfl
theorem en140 : enB Try.prog 140 = true := by kernel_rfl
theorem en141 : enB Try.prog 141 = true := by kernel_rfl
theorem en142 : enB Try.prog 142 = true := by kernel_rfl
theorem en143 : enB Try.prog 143 = true := by kernel_rfl
theorem en144 : enB Try.prog 144 = true := by kernel_rfl
theorem en145 : enB Try.prog 145 = true := by kernel_rfl
theorem en146 : enB Try.prog 146 = true := by kernel_rfl
theorem en147 : enB Try.prog 147 = true := by kernel_rfl
theorem en148 : enB Try.prog 148 = true := by kernel_rfl
theorem sz2 : szB Try.prog 2 false 1 = true := by kernel_rfl
theorem by2 : byB Try.prog 2 8 = true := by kernel_rfl
theorem zr2 : zrB Try.prog 2 (.int .i64 0) := by unfold zrB; kernel_rfl
theorem int2 : intB Try.prog 2 .i64 = true := by kernel_rfl
theorem sz3 : szB Try.prog 3 false 1 = true := by kernel_rfl
theorem by3 : byB Try.prog 3 8 = true := by kernel_rfl
theorem zr3 : zrB Try.prog 3 (.int .i64 0) := by unfold zrB; kernel_rfl
theorem int3 : intB Try.prog 3 .i64 = true := by kernel_rfl
theorem sz4 : szB Try.prog 4 false 1 = true := by kernel_rfl
theorem by4 : byB Try.prog 4 1 = true := by kernel_rfl
theorem zr4 : zrB Try.prog 4 (.bool false) := by unfold zrB; kernel_rfl
theorem sz5 : szB Try.prog 5 false 1 = true := by kernel_rfl
theorem by5 : byB Try.prog 5 1 = true := by kernel_rfl
theorem zr5 : zrB Try.prog 5 (.int .u8 0) := by unfold zrB; kernel_rfl
theorem int5 : intB Try.prog 5 .u8 = true := by kernel_rfl
theorem sz6 : szB Try.prog 6 false 1 = true := by kernel_rfl
theorem by6 : byB Try.prog 6 1 = true := by kernel_rfl
theorem zr6 : zrB Try.prog 6 (.int .u8 0) := by unfold zrB; kernel_rfl
theorem int6 : intB Try.prog 6 .u8 = true := by kernel_rfl
theorem sz7 : szB Try.prog 7 true 4 = true := by kernel_rfl
theorem by7 : byB Try.prog 7 24 = true := by kernel_rfl
theorem zr7 : zrB Try.prog 7 (.agg #[.int .i64 0, .int .i64 0, .bool false, .int .u8 0]) := by unfold zrB; kernel_rfl
theorem fld7_0 : fldB Try.prog 7 0 0 = true := by kernel_rfl
theorem fd7_0 : (match Try.prog.underlying 7 with | some (.struct fs) => (fs[0]?).map (fun fd => (fd.offset, fd.type)) | _ => none) = some (0, 2) := by kernel_rfl
theorem fld7_1 : fldB Try.prog 7 1 1 = true := by kernel_rfl
theorem fd7_1 : (match Try.prog.underlying 7 with | some (.struct fs) => (fs[1]?).map (fun fd => (fd.offset, fd.type)) | _ => none) = some (1, 3) := by kernel_rfl
theorem fld7_2 : fldB Try.prog 7 2 2 = true := by kernel_rfl
theorem fd7_2 : (match Try.prog.underlying 7 with | some (.struct fs) => (fs[2]?).map (fun fd => (fd.offset, fd.type)) | _ => none) = some (2, 4) := by kernel_rfl
theorem fld7_3 : fldB Try.prog 7 3 3 = true := by kernel_rfl
theorem fd7_3 : (match Try.prog.underlying 7 with | some (.struct fs) => (fs[3]?).map (fun fd => (fd.offset, fd.type)) | _ => none) = some (3, 6) := by kernel_rfl
theorem pl7 : plB Try.prog 7 [(0, 1), (1, 1), (2, 1), (3, 1)] = true := by kernel_rfl
theorem sz8 : szB Try.prog 8 true 4 = true := by kernel_rfl
theorem by8 : byB Try.prog 8 24 = true := by kernel_rfl
theorem zr8 : zrB Try.prog 8 (.agg #[.int .i64 0, .int .i64 0, .bool false, .int .u8 0]) := by unfold zrB; kernel_rfl
theorem fld8_0 : fldB Try.prog 8 0 0 = true := by kernel_rfl
theorem fd8_0 : (match Try.prog.underlying 8 with | some (.struct fs) => (fs[0]?).map (fun fd => (fd.offset, fd.type)) | _ => none) = some (0, 2) := by kernel_rfl
theorem fld8_1 : fldB Try.prog 8 1 1 = true := by kernel_rfl
theorem fd8_1 : (match Try.prog.underlying 8 with | some (.struct fs) => (fs[1]?).map (fun fd => (fd.offset, fd.type)) | _ => none) = some (1, 3) := by kernel_rfl
theorem fld8_2 : fldB Try.prog 8 2 2 = true := by kernel_rfl
theorem fd8_2 : (match Try.prog.underlying 8 with | some (.struct fs) => (fs[2]?).map (fun fd => (fd.offset, fd.type)) | _ => none) = some (2, 4) := by kernel_rfl
theorem fld8_3 : fldB Try.prog 8 3 3 = true := by kernel_rfl
theorem fd8_3 : (match Try.prog.underlying 8 with | some (.struct fs) => (fs[3]?).map (fun fd => (fd.offset, fd.type)) | _ => none) = some (3, 6) := by kernel_rfl
theorem pl8 : plB Try.prog 8 [(0, 1), (1, 1), (2, 1), (3, 1)] = true := by kernel_rfl
theorem sz9 : szB Try.prog 9 false 1 = true := by kernel_rfl
theorem by9 : byB Try.prog 9 16 = true := by kernel_rfl
theorem zr9 : zrB Try.prog 9 (.string ⟨#[]⟩) := by unfold zrB; kernel_rfl
theorem str9 : isStr Try.prog 9 = true := by kernel_rfl
theorem sz10 : szB Try.prog 10 false 1 = true := by kernel_rfl
theorem by10 : byB Try.prog 10 16 = true := by kernel_rfl
theorem zr10 : zrB Try.prog 10 (.string ⟨#[]⟩) := by unfold zrB; kernel_rfl
theorem str10 : isStr Try.prog 10 = true := by kernel_rfl
theorem sz11 : szB Try.prog 11 false 1 = true := by kernel_rfl
theorem by11 : byB Try.prog 11 16 = true := by kernel_rfl
theorem zr11 : zrB Try.prog 11 (.string ⟨#[]⟩) := by unfold zrB; kernel_rfl
theorem str11 : isStr Try.prog 11 = true := by kernel_rfl
theorem sz12 : szB Try.prog 12 false 1 = true := by kernel_rfl
theorem by12 : byB Try.prog 12 8 = true := by kernel_rfl
theorem zr12 : zrB Try.prog 12 (.int .u64 0) := by unfold zrB; kernel_rfl
theorem int12 : intB Try.prog 12 .u64 = true := by kernel_rfl
theorem sz13 : szB Try.prog 13 true 2 = true := by kernel_rfl
theorem by13 : byB Try.prog 13 24 = true := by kernel_rfl
theorem zr13 : zrB Try.prog 13 (.agg #[.string ⟨#[]⟩, .int .u64 0]) := by unfold zrB; kernel_rfl
theorem fld13_0 : fldB Try.prog 13 0 0 = true := by kernel_rfl
theorem fd13_0 : (match Try.prog.underlying 13 with | some (.struct fs) => (fs[0]?).map (fun fd => (fd.offset, fd.type)) | _ => none) = some (0, 9) := by kernel_rfl
theorem fld13_1 : fldB Try.prog 13 1 1 = true := by kernel_rfl
theorem fd13_1 : (match Try.prog.underlying 13 with | some (.struct fs) => (fs[1]?).map (fun fd => (fd.offset, fd.type)) | _ => none) = some (1, 12) := by kernel_rfl
theorem pl13 : plB Try.prog 13 [(0, 1), (1, 1)] = true := by kernel_rfl
theorem sz14 : szB Try.prog 14 true 2 = true := by kernel_rfl
theorem by14 : byB Try.prog 14 24 = true := by kernel_rfl
theorem zr14 : zrB Try.prog 14 (.agg #[.string ⟨#[]⟩, .int .u64 0]) := by unfold zrB; kernel_rfl
theorem fld14_0 : fldB Try.prog 14 0 0 = true := by kernel_rfl
theorem fd14_0 : (match Try.prog.underlying 14 with | some (.struct fs) => (fs[0]?).map (fun fd => (fd.offset, fd.type)) | _ => none) = some (0, 9) := by kernel_rfl
theorem fld14_1 : fldB Try.prog 14 1 1 = true := by kernel_rfl
theorem fd14_1 : (match Try.prog.underlying 14 with | some (.struct fs) => (fs[1]?).map (fun fd => (fd.offset, fd.type)) | _ => none) = some (1, 12) := by kernel_rfl
theorem pl14 : plB Try.prog 14 [(0, 1), (1, 1)] = true := by kernel_rfl
theorem sz15 : szB Try.prog 15 false 1 = true := by kernel_rfl
theorem by15 : byB Try.prog 15 8 = true := by kernel_rfl
theorem zr15 : zrB Try.prog 15 (.pointer none) := by unfold zrB; kernel_rfl
theorem sz16 : szB Try.prog 16 false 1 = true := by kernel_rfl
theorem by16 : byB Try.prog 16 8 = true := by kernel_rfl
theorem zr16 : zrB Try.prog 16 (.pointer none) := by unfold zrB; kernel_rfl
theorem sz17 : szB Try.prog 17 false 1 = true := by kernel_rfl
theorem by17 : byB Try.prog 17 8 = true := by kernel_rfl
theorem zr17 : zrB Try.prog 17 (.pointer none) := by unfold zrB; kernel_rfl
theorem sz18 : szB Try.prog 18 true 1 = true := by kernel_rfl
theorem by18 : byB Try.prog 18 8 = true := by kernel_rfl
theorem zr18 : zrB Try.prog 18 (.agg #[.pointer none]) := by unfold zrB; kernel_rfl
theorem fld18_0 : fldB Try.prog 18 0 0 = true := by kernel_rfl
theorem fd18_0 : (match Try.prog.underlying 18 with | some (.struct fs) => (fs[0]?).map (fun fd => (fd.offset, fd.type)) | _ => none) = some (0, 17) := by kernel_rfl
theorem pl18 : plB Try.prog 18 [(0, 1)] = true := by kernel_rfl
theorem sz19 : szB Try.prog 19 true 1 = true := by kernel_rfl
theorem by19 : byB Try.prog 19 8 = true := by kernel_rfl
theorem zr19 : zrB Try.prog 19 (.agg #[.pointer none]) := by unfold zrB; kernel_rfl
theorem fld19_0 : fldB Try.prog 19 0 0 = true := by kernel_rfl
theorem fd19_0 : (match Try.prog.underlying 19 with | some (.struct fs) => (fs[0]?).map (fun fd => (fd.offset, fd.type)) | _ => none) = some (0, 17) := by kernel_rfl
theorem pl19 : plB Try.prog 19 [(0, 1)] = true := by kernel_rfl
theorem sz21 : szB Try.prog 21 false 1 = true := by kernel_rfl
theorem by21 : byB Try.prog 21 4 = true := by kernel_rfl
theorem zr21 : zrB Try.prog 21 (.int .i32 0) := by unfold zrB; kernel_rfl
theorem int21 : intB Try.prog 21 .i32 = true := by kernel_rfl
theorem sz22 : szB Try.prog 22 false 1 = true := by kernel_rfl
theorem by22 : byB Try.prog 22 24 = true := by kernel_rfl
theorem zr22 : zrB Try.prog 22 (.slice none 0 0) := by unfold zrB; kernel_rfl
theorem sl22 : slB Try.prog 22 38 2 = true := by kernel_rfl
theorem isl22 : isSl Try.prog 22 = true := by kernel_rfl
theorem sz23 : szB Try.prog 23 true 4 = true := by kernel_rfl
theorem by23 : byB Try.prog 23 32 = true := by kernel_rfl
theorem zr23 : zrB Try.prog 23 (.agg #[.int .i64 0, .int .i64 0, .int .i64 0, .int .i64 0]) := by unfold zrB; kernel_rfl
theorem fld23_0 : fldB Try.prog 23 0 0 = true := by kernel_rfl
theorem fd23_0 : (match Try.prog.underlying 23 with | some (.struct fs) => (fs[0]?).map (fun fd => (fd.offset, fd.type)) | _ => none) = some (0, 3) := by kernel_rfl
theorem fld23_1 : fldB Try.prog 23 1 1 = true := by kernel_rfl
theorem fd23_1 : (match Try.prog.underlying 23 with | some (.struct fs) => (fs[1]?).map (fun fd => (fd.offset, fd.type)) | _ => none) = some (1, 3) := by kernel_rfl
theorem fld23_2 : fldB Try.prog 23 2 2 = true := by kernel_rfl
theorem fd23_2 : (match Try.prog.underlying 23 with | some (.struct fs) => (fs[2]?).map (fun fd => (fd.offset, fd.type)) | _ => none) = some (2, 3) := by kernel_rfl
theorem fld23_3 : fldB Try.prog 23 3 3 = true := by kernel_rfl
theorem fd23_3 : (match Try.prog.underlying 23 with | some (.struct fs) => (fs[3]?).map (fun fd => (fd.offset, fd.type)) | _ => none) = some (3, 3) := by kernel_rfl
theorem pl23 : plB Try.prog 23 [(0, 1), (1, 1), (2, 1), (3, 1)] = true := by kernel_rfl
theorem eqi23 : EqI Try.prog 23 4 := by
  intro xs ys hx hy w
  match xs, ys, hx, hy with
  | [a0, a1, a2, a3], [b0, b1, b2, b3], _, _ =>
    refine ⟨fun x y => run_eqGuard_agg w .eql 23 x y _ _ (by kernel_rfl), fun x y => run_eqGuard_agg w .neq 23 x y _ _ (by kernel_rfl), ?_⟩
    have hf : (Try.prog.fieldsOf 23).toList = [⟨ "Wedge", 3, 0, false, "", "", 0⟩, ⟨ "Metal", 3, 1, false, "", "", 8⟩, ⟨ "Skips", 3, 2, false, "", "", 16⟩, ⟨ "Thick", 3, 3, false, "", "", 24⟩] := by kernel_rfl
    rw [show (10000 : Nat) = 9998 + 1 + 1 from rfl, run_equalIn_struct w (9998 + 1) 23 _ _ (by kernel_rfl) (by kernel_rfl), hf]
    have u3 := Try.underlying3; 
    simp [Op.eqFields, part, isAgg, run_underlying u3, iW, run_equalIn_int, u3, Result.andThen]
    (repeat' split) <;> simp_all
theorem sz24 : szB Try.prog 24 true 4 = true := by kernel_rfl
theorem by24 : byB Try.prog 24 32 = true := by kernel_rfl
theorem zr24 : zrB Try.prog 24 (.agg #[.int .i64 0, .int .i64 0, .int .i64 0, .int .i64 0]) := by unfold zrB; kernel_rfl
theorem fld24_0 : fldB Try.prog 24 0 0 = true := by kernel_rfl
theorem fd24_0 : (match Try.prog.underlying 24 with | some (.struct fs) => (fs[0]?).map (fun fd => (fd.offset, fd.type)) | _ => none) = some (0, 3) := by kernel_rfl
theorem fld24_1 : fldB Try.prog 24 1 1 = true := by kernel_rfl
theorem fd24_1 : (match Try.prog.underlying 24 with | some (.struct fs) => (fs[1]?).map (fun fd => (fd.offset, fd.type)) | _ => none) = some (1, 3) := by kernel_rfl
theorem fld24_2 : fldB Try.prog 24 2 2 = true := by kernel_rfl
theorem fd24_2 : (match Try.prog.underlying 24 with | some (.struct fs) => (fs[2]?).map (fun fd => (fd.offset, fd.type)) | _ => none) = some (2, 3) := by kernel_rfl
theorem fld24_3 : fldB Try.prog 24 3 3 = true := by kernel_rfl
theorem fd24_3 : (match Try.prog.underlying 24 with | some (.struct fs) => (fs[3]?).map (fun fd => (fd.offset, fd.type)) | _ => none) = some (3, 3) := by kernel_rfl
theorem pl24 : plB Try.prog 24 [(0, 1), (1, 1), (2, 1), (3, 1)] = true := by kernel_rfl
theorem eqi24 : EqI Try.prog 24 4 := by
  intro xs ys hx hy w
  match xs, ys, hx, hy with
  | [a0, a1, a2, a3], [b0, b1, b2, b3], _, _ =>
    refine ⟨fun x y => run_eqGuard_agg w .eql 24 x y _ _ (by kernel_rfl), fun x y => run_eqGuard_agg w .neq 24 x y _ _ (by kernel_rfl), ?_⟩
    have hf : (Try.prog.fieldsOf 24).toList = [⟨ "Wedge", 3, 0, false, "", "", 0⟩, ⟨ "Metal", 3, 1, false, "", "", 8⟩, ⟨ "Skips", 3, 2, false, "", "", 16⟩, ⟨ "Thick", 3, 3, false, "", "", 24⟩] := by kernel_rfl
    rw [show (10000 : Nat) = 9998 + 1 + 1 from rfl, run_equalIn_struct w (9998 + 1) 24 _ _ (by kernel_rfl) (by kernel_rfl), hf]
    have u3 := Try.underlying3; 
    simp [Op.eqFields, part, isAgg, run_underlying u3, iW, run_equalIn_int, u3, Result.andThen]
    (repeat' split) <;> simp_all
theorem sz25 : szB Try.prog 25 true 2 = true := by kernel_rfl
theorem by25 : byB Try.prog 25 16 = true := by kernel_rfl
theorem zr25 : zrB Try.prog 25 (.agg #[.int .i64 0, .int .i64 0]) := by unfold zrB; kernel_rfl
theorem fld25_0 : fldB Try.prog 25 0 0 = true := by kernel_rfl
theorem fd25_0 : (match Try.prog.underlying 25 with | some (.struct fs) => (fs[0]?).map (fun fd => (fd.offset, fd.type)) | _ => none) = some (0, 3) := by kernel_rfl
theorem fld25_1 : fldB Try.prog 25 1 1 = true := by kernel_rfl
theorem fd25_1 : (match Try.prog.underlying 25 with | some (.struct fs) => (fs[1]?).map (fun fd => (fd.offset, fd.type)) | _ => none) = some (1, 3) := by kernel_rfl
theorem pl25 : plB Try.prog 25 [(0, 1), (1, 1)] = true := by kernel_rfl
theorem eqi25 : EqI Try.prog 25 2 := by
  intro xs ys hx hy w
  match xs, ys, hx, hy with
  | [a0, a1], [b0, b1], _, _ =>
    refine ⟨fun x y => run_eqGuard_agg w .eql 25 x y _ _ (by kernel_rfl), fun x y => run_eqGuard_agg w .neq 25 x y _ _ (by kernel_rfl), ?_⟩
    have hf : (Try.prog.fieldsOf 25).toList = [⟨ "First", 3, 0, false, "", "", 0⟩, ⟨ "Step", 3, 1, false, "", "", 8⟩] := by kernel_rfl
    rw [show (10000 : Nat) = 9998 + 1 + 1 from rfl, run_equalIn_struct w (9998 + 1) 25 _ _ (by kernel_rfl) (by kernel_rfl), hf]
    have u3 := Try.underlying3; 
    simp [Op.eqFields, part, isAgg, run_underlying u3, iW, run_equalIn_int, u3, Result.andThen]
    (repeat' split) <;> simp_all
theorem sz26 : szB Try.prog 26 true 2 = true := by kernel_rfl
theorem by26 : byB Try.prog 26 16 = true := by kernel_rfl
theorem zr26 : zrB Try.prog 26 (.agg #[.int .i64 0, .int .i64 0]) := by unfold zrB; kernel_rfl
theorem fld26_0 : fldB Try.prog 26 0 0 = true := by kernel_rfl
theorem fd26_0 : (match Try.prog.underlying 26 with | some (.struct fs) => (fs[0]?).map (fun fd => (fd.offset, fd.type)) | _ => none) = some (0, 3) := by kernel_rfl
theorem fld26_1 : fldB Try.prog 26 1 1 = true := by kernel_rfl
theorem fd26_1 : (match Try.prog.underlying 26 with | some (.struct fs) => (fs[1]?).map (fun fd => (fd.offset, fd.type)) | _ => none) = some (1, 3) := by kernel_rfl
theorem pl26 : plB Try.prog 26 [(0, 1), (1, 1)] = true := by kernel_rfl
theorem eqi26 : EqI Try.prog 26 2 := by
  intro xs ys hx hy w
  match xs, ys, hx, hy with
  | [a0, a1], [b0, b1], _, _ =>
    refine ⟨fun x y => run_eqGuard_agg w .eql 26 x y _ _ (by kernel_rfl), fun x y => run_eqGuard_agg w .neq 26 x y _ _ (by kernel_rfl), ?_⟩
    have hf : (Try.prog.fieldsOf 26).toList = [⟨ "First", 3, 0, false, "", "", 0⟩, ⟨ "Step", 3, 1, false, "", "", 8⟩] := by kernel_rfl
    rw [show (10000 : Nat) = 9998 + 1 + 1 from rfl, run_equalIn_struct w (9998 + 1) 26 _ _ (by kernel_rfl) (by kernel_rfl), hf]
    have u3 := Try.underlying3; 
    simp [Op.eqFields, part, isAgg, run_underlying u3, iW, run_equalIn_int, u3, Result.andThen]
    (repeat' split) <;> simp_all
theorem sz27 : szB Try.prog 27 true 11 = true := by kernel_rfl
theorem by27 : byB Try.prog 27 104 = true := by kernel_rfl
theorem zr27 : zrB Try.prog 27 (.agg #[.slice none 0 0, .int .i64 0, .int .i64 0, .int .i64 0, .int .i64 0, .int .i64 0, .int .i64 0, .int .i64 0, .int .i64 0, .int .i64 0, .int .i64 0]) := by unfold zrB; kernel_rfl
theorem fld27_0 : fldB Try.prog 27 0 0 = true := by kernel_rfl
theorem fd27_0 : (match Try.prog.underlying 27 with | some (.struct fs) => (fs[0]?).map (fun fd => (fd.offset, fd.type)) | _ => none) = some (0, 22) := by kernel_rfl
theorem fld27_1 : fldB Try.prog 27 1 1 = true := by kernel_rfl
theorem fd27_1 : (match Try.prog.underlying 27 with | some (.struct fs) => (fs[1]?).map (fun fd => (fd.offset, fd.type)) | _ => none) = some (1, 24) := by kernel_rfl
theorem fld27_2 : fldB Try.prog 27 2 5 = true := by kernel_rfl
theorem fd27_2 : (match Try.prog.underlying 27 with | some (.struct fs) => (fs[2]?).map (fun fd => (fd.offset, fd.type)) | _ => none) = some (5, 24) := by kernel_rfl
theorem fld27_3 : fldB Try.prog 27 3 9 = true := by kernel_rfl
theorem fd27_3 : (match Try.prog.underlying 27 with | some (.struct fs) => (fs[3]?).map (fun fd => (fd.offset, fd.type)) | _ => none) = some (9, 26) := by kernel_rfl
theorem pl27 : plB Try.prog 27 [(0, 1), (1, 4), (5, 4), (9, 2)] = true := by kernel_rfl
theorem sz28 : szB Try.prog 28 true 11 = true := by kernel_rfl
theorem by28 : byB Try.prog 28 104 = true := by kernel_rfl
theorem zr28 : zrB Try.prog 28 (.agg #[.slice none 0 0, .int .i64 0, .int .i64 0, .int .i64 0, .int .i64 0, .int .i64 0, .int .i64 0, .int .i64 0, .int .i64 0, .int .i64 0, .int .i64 0]) := by unfold zrB; kernel_rfl
theorem fld28_0 : fldB Try.prog 28 0 0 = true := by kernel_rfl
theorem fd28_0 : (match Try.prog.underlying 28 with | some (.struct fs) => (fs[0]?).map (fun fd => (fd.offset, fd.type)) | _ => none) = some (0, 22) := by kernel_rfl
theorem fld28_1 : fldB Try.prog 28 1 1 = true := by kernel_rfl
theorem fd28_1 : (match Try.prog.underlying 28 with | some (.struct fs) => (fs[1]?).map (fun fd => (fd.offset, fd.type)) | _ => none) = some (1, 24) := by kernel_rfl
theorem fld28_2 : fldB Try.prog 28 2 5 = true := by kernel_rfl
theorem fd28_2 : (match Try.prog.underlying 28 with | some (.struct fs) => (fs[2]?).map (fun fd => (fd.offset, fd.type)) | _ => none) = some (5, 24) := by kernel_rfl
theorem fld28_3 : fldB Try.prog 28 3 9 = true := by kernel_rfl
theorem fd28_3 : (match Try.prog.underlying 28 with | some (.struct fs) => (fs[3]?).map (fun fd => (fd.offset, fd.type)) | _ => none) = some (9, 26) := by kernel_rfl
theorem pl28 : plB Try.prog 28 [(0, 1), (1, 4), (5, 4), (9, 2)] = true := by kernel_rfl
theorem sz31 : szB Try.prog 31 false 1 = true := by kernel_rfl
theorem by31 : byB Try.prog 31 8 = true := by kernel_rfl
theorem zr31 : zrB Try.prog 31 (.int .i64 0) := by unfold zrB; kernel_rfl
theorem int31 : intB Try.prog 31 .i64 = true := by kernel_rfl
theorem sz37 : szB Try.prog 37 true 2 = true := by kernel_rfl
theorem by37 : byB Try.prog 37 16 = true := by kernel_rfl
theorem zr37 : zrB Try.prog 37 (.agg #[.int .i64 0, .int .i64 0]) := by unfold zrB; kernel_rfl
theorem fld37_0 : fldB Try.prog 37 0 0 = true := by kernel_rfl
theorem fd37_0 : (match Try.prog.underlying 37 with | some (.struct fs) => (fs[0]?).map (fun fd => (fd.offset, fd.type)) | _ => none) = some (0, 3) := by kernel_rfl
theorem fld37_1 : fldB Try.prog 37 1 1 = true := by kernel_rfl
theorem fd37_1 : (match Try.prog.underlying 37 with | some (.struct fs) => (fs[1]?).map (fun fd => (fd.offset, fd.type)) | _ => none) = some (1, 3) := by kernel_rfl
theorem pl37 : plB Try.prog 37 [(0, 1), (1, 1)] = true := by kernel_rfl
theorem eqi37 : EqI Try.prog 37 2 := by
  intro xs ys hx hy w
  match xs, ys, hx, hy with
  | [a0, a1], [b0, b1], _, _ =>
    refine ⟨fun x y => run_eqGuard_agg w .eql 37 x y _ _ (by kernel_rfl), fun x y => run_eqGuard_agg w .neq 37 x y _ _ (by kernel_rfl), ?_⟩
    have hf : (Try.prog.fieldsOf 37).toList = [⟨ "X", 3, 0, false, "", "", 0⟩, ⟨ "Z", 3, 1, false, "", "", 8⟩] := by kernel_rfl
    rw [show (10000 : Nat) = 9998 + 1 + 1 from rfl, run_equalIn_struct w (9998 + 1) 37 _ _ (by kernel_rfl) (by kernel_rfl), hf]
    have u3 := Try.underlying3; 
    simp [Op.eqFields, part, isAgg, run_underlying u3, iW, run_equalIn_int, u3, Result.andThen]
    (repeat' split) <;> simp_all
theorem sz38 : szB Try.prog 38 true 2 = true := by kernel_rfl
theorem by38 : byB Try.prog 38 16 = true := by kernel_rfl
theorem zr38 : zrB Try.prog 38 (.agg #[.int .i64 0, .int .i64 0]) := by unfold zrB; kernel_rfl
theorem fld38_0 : fldB Try.prog 38 0 0 = true := by kernel_rfl
theorem fd38_0 : (match Try.prog.underlying 38 with | some (.struct fs) => (fs[0]?).map (fun fd => (fd.offset, fd.type)) | _ => none) = some (0, 3) := by kernel_rfl
theorem fld38_1 : fldB Try.prog 38 1 1 = true := by kernel_rfl
theorem fd38_1 : (match Try.prog.underlying 38 with | some (.struct fs) => (fs[1]?).map (fun fd => (fd.offset, fd.type)) | _ => none) = some (1, 3) := by kernel_rfl
theorem pl38 : plB Try.prog 38 [(0, 1), (1, 1)] = true := by kernel_rfl
theorem eqi38 : EqI Try.prog 38 2 := by
  intro xs ys hx hy w
  match xs, ys, hx, hy with
  | [a0, a1], [b0, b1], _, _ =>
    refine ⟨fun x y => run_eqGuard_agg w .eql 38 x y _ _ (by kernel_rfl), fun x y => run_eqGuard_agg w .neq 38 x y _ _ (by kernel_rfl), ?_⟩
    have hf : (Try.prog.fieldsOf 38).toList = [⟨ "X", 3, 0, false, "", "", 0⟩, ⟨ "Z", 3, 1, false, "", "", 8⟩] := by kernel_rfl
    rw [show (10000 : Nat) = 9998 + 1 + 1 from rfl, run_equalIn_struct w (9998 + 1) 38 _ _ (by kernel_rfl) (by kernel_rfl), hf]
    have u3 := Try.underlying3; 
    simp [Op.eqFields, part, isAgg, run_underlying u3, iW, run_equalIn_int, u3, Result.andThen]
    (repeat' split) <;> simp_all
theorem sz39 : szB Try.prog 39 true 8 = true := by kernel_rfl
theorem by39 : byB Try.prog 39 64 = true := by kernel_rfl
theorem zr39 : zrB Try.prog 39 (.agg #[.int .i64 0, .int .i64 0, .int .i64 0, .int .i64 0, .int .i64 0, .int .i64 0, .int .i64 0, .int .i64 0]) := by unfold zrB; kernel_rfl
theorem fld39_0 : fldB Try.prog 39 0 0 = true := by kernel_rfl
theorem fd39_0 : (match Try.prog.underlying 39 with | some (.struct fs) => (fs[0]?).map (fun fd => (fd.offset, fd.type)) | _ => none) = some (0, 3) := by kernel_rfl
theorem fld39_1 : fldB Try.prog 39 1 1 = true := by kernel_rfl
theorem fd39_1 : (match Try.prog.underlying 39 with | some (.struct fs) => (fs[1]?).map (fun fd => (fd.offset, fd.type)) | _ => none) = some (1, 38) := by kernel_rfl
theorem fld39_2 : fldB Try.prog 39 2 3 = true := by kernel_rfl
theorem fd39_2 : (match Try.prog.underlying 39 with | some (.struct fs) => (fs[2]?).map (fun fd => (fd.offset, fd.type)) | _ => none) = some (3, 38) := by kernel_rfl
theorem fld39_3 : fldB Try.prog 39 3 5 = true := by kernel_rfl
theorem fd39_3 : (match Try.prog.underlying 39 with | some (.struct fs) => (fs[3]?).map (fun fd => (fd.offset, fd.type)) | _ => none) = some (5, 3) := by kernel_rfl
theorem fld39_4 : fldB Try.prog 39 4 6 = true := by kernel_rfl
theorem fd39_4 : (match Try.prog.underlying 39 with | some (.struct fs) => (fs[4]?).map (fun fd => (fd.offset, fd.type)) | _ => none) = some (6, 3) := by kernel_rfl
theorem fld39_5 : fldB Try.prog 39 5 7 = true := by kernel_rfl
theorem fd39_5 : (match Try.prog.underlying 39 with | some (.struct fs) => (fs[5]?).map (fun fd => (fd.offset, fd.type)) | _ => none) = some (7, 3) := by kernel_rfl
theorem pl39 : plB Try.prog 39 [(0, 1), (1, 2), (3, 2), (5, 1), (6, 1), (7, 1)] = true := by kernel_rfl
theorem sz40 : szB Try.prog 40 true 8 = true := by kernel_rfl
theorem by40 : byB Try.prog 40 64 = true := by kernel_rfl
theorem zr40 : zrB Try.prog 40 (.agg #[.int .i64 0, .int .i64 0, .int .i64 0, .int .i64 0, .int .i64 0, .int .i64 0, .int .i64 0, .int .i64 0]) := by unfold zrB; kernel_rfl
theorem fld40_0 : fldB Try.prog 40 0 0 = true := by kernel_rfl
theorem fd40_0 : (match Try.prog.underlying 40 with | some (.struct fs) => (fs[0]?).map (fun fd => (fd.offset, fd.type)) | _ => none) = some (0, 3) := by kernel_rfl
theorem fld40_1 : fldB Try.prog 40 1 1 = true := by kernel_rfl
theorem fd40_1 : (match Try.prog.underlying 40 with | some (.struct fs) => (fs[1]?).map (fun fd => (fd.offset, fd.type)) | _ => none) = some (1, 38) := by kernel_rfl
theorem fld40_2 : fldB Try.prog 40 2 3 = true := by kernel_rfl
theorem fd40_2 : (match Try.prog.underlying 40 with | some (.struct fs) => (fs[2]?).map (fun fd => (fd.offset, fd.type)) | _ => none) = some (3, 38) := by kernel_rfl
theorem fld40_3 : fldB Try.prog 40 3 5 = true := by kernel_rfl
theorem fd40_3 : (match Try.prog.underlying 40 with | some (.struct fs) => (fs[3]?).map (fun fd => (fd.offset, fd.type)) | _ => none) = some (5, 3) := by kernel_rfl
theorem fld40_4 : fldB Try.prog 40 4 6 = true := by kernel_rfl
theorem fd40_4 : (match Try.prog.underlying 40 with | some (.struct fs) => (fs[4]?).map (fun fd => (fd.offset, fd.type)) | _ => none) = some (6, 3) := by kernel_rfl
theorem fld40_5 : fldB Try.prog 40 5 7 = true := by kernel_rfl
theorem fd40_5 : (match Try.prog.underlying 40 with | some (.struct fs) => (fs[5]?).map (fun fd => (fd.offset, fd.type)) | _ => none) = some (7, 3) := by kernel_rfl
theorem pl40 : plB Try.prog 40 [(0, 1), (1, 2), (3, 2), (5, 1), (6, 1), (7, 1)] = true := by kernel_rfl
theorem sz41 : szB Try.prog 41 false 1 = true := by kernel_rfl
theorem by41 : byB Try.prog 41 24 = true := by kernel_rfl
theorem zr41 : zrB Try.prog 41 (.slice none 0 0) := by unfold zrB; kernel_rfl
theorem sl41 : slB Try.prog 41 49 3 = true := by kernel_rfl
theorem isl41 : isSl Try.prog 41 = true := by kernel_rfl
theorem sz48 : szB Try.prog 48 true 3 = true := by kernel_rfl
theorem by48 : byB Try.prog 48 24 = true := by kernel_rfl
theorem zr48 : zrB Try.prog 48 (.agg #[.int .i64 0, .int .i64 0, .int .i64 0]) := by unfold zrB; kernel_rfl
theorem fld48_0 : fldB Try.prog 48 0 0 = true := by kernel_rfl
theorem fd48_0 : (match Try.prog.underlying 48 with | some (.struct fs) => (fs[0]?).map (fun fd => (fd.offset, fd.type)) | _ => none) = some (0, 38) := by kernel_rfl
theorem fld48_1 : fldB Try.prog 48 1 2 = true := by kernel_rfl
theorem fd48_1 : (match Try.prog.underlying 48 with | some (.struct fs) => (fs[1]?).map (fun fd => (fd.offset, fd.type)) | _ => none) = some (2, 3) := by kernel_rfl
theorem pl48 : plB Try.prog 48 [(0, 2), (2, 1)] = true := by kernel_rfl
theorem sz49 : szB Try.prog 49 true 3 = true := by kernel_rfl
theorem by49 : byB Try.prog 49 24 = true := by kernel_rfl
theorem zr49 : zrB Try.prog 49 (.agg #[.int .i64 0, .int .i64 0, .int .i64 0]) := by unfold zrB; kernel_rfl
theorem fld49_0 : fldB Try.prog 49 0 0 = true := by kernel_rfl
theorem fd49_0 : (match Try.prog.underlying 49 with | some (.struct fs) => (fs[0]?).map (fun fd => (fd.offset, fd.type)) | _ => none) = some (0, 38) := by kernel_rfl
theorem fld49_1 : fldB Try.prog 49 1 2 = true := by kernel_rfl
theorem fd49_1 : (match Try.prog.underlying 49 with | some (.struct fs) => (fs[1]?).map (fun fd => (fd.offset, fd.type)) | _ => none) = some (2, 3) := by kernel_rfl
theorem pl49 : plB Try.prog 49 [(0, 2), (2, 1)] = true := by kernel_rfl
theorem sz51 : szB Try.prog 51 false 1 = true := by kernel_rfl
theorem by51 : byB Try.prog 51 24 = true := by kernel_rfl
theorem zr51 : zrB Try.prog 51 (.slice none 0 0) := by unfold zrB; kernel_rfl
theorem sl51 : slB Try.prog 51 3 1 = true := by kernel_rfl
theorem isl51 : isSl Try.prog 51 = true := by kernel_rfl
theorem sz52 : szB Try.prog 52 false 1 = true := by kernel_rfl
theorem by52 : byB Try.prog 52 24 = true := by kernel_rfl
theorem zr52 : zrB Try.prog 52 (.slice none 0 0) := by unfold zrB; kernel_rfl
theorem sl52 : slB Try.prog 52 40 8 = true := by kernel_rfl
theorem isl52 : isSl Try.prog 52 = true := by kernel_rfl
theorem sz53 : szB Try.prog 53 true 13 = true := by kernel_rfl
theorem by53 : byB Try.prog 53 152 = true := by kernel_rfl
theorem zr53 : zrB Try.prog 53 (.agg #[.slice none 0 0, .int .i64 0, .int .i64 0, .int .i64 0, .int .i64 0, .int .i64 0, .int .i64 0, .int .i64 0, .int .i64 0, .int .i64 0, .int .i64 0, .slice none 0 0, .slice none 0 0]) := by unfold zrB; kernel_rfl
theorem fld53_0 : fldB Try.prog 53 0 0 = true := by kernel_rfl
theorem fd53_0 : (match Try.prog.underlying 53 with | some (.struct fs) => (fs[0]?).map (fun fd => (fd.offset, fd.type)) | _ => none) = some (0, 28) := by kernel_rfl
theorem fld53_1 : fldB Try.prog 53 1 11 = true := by kernel_rfl
theorem fd53_1 : (match Try.prog.underlying 53 with | some (.struct fs) => (fs[1]?).map (fun fd => (fd.offset, fd.type)) | _ => none) = some (11, 51) := by kernel_rfl
theorem fld53_2 : fldB Try.prog 53 2 12 = true := by kernel_rfl
theorem fd53_2 : (match Try.prog.underlying 53 with | some (.struct fs) => (fs[2]?).map (fun fd => (fd.offset, fd.type)) | _ => none) = some (12, 52) := by kernel_rfl
theorem pl53 : plB Try.prog 53 [(0, 11), (11, 1), (12, 1)] = true := by kernel_rfl
theorem sz54 : szB Try.prog 54 true 13 = true := by kernel_rfl
theorem by54 : byB Try.prog 54 152 = true := by kernel_rfl
theorem zr54 : zrB Try.prog 54 (.agg #[.slice none 0 0, .int .i64 0, .int .i64 0, .int .i64 0, .int .i64 0, .int .i64 0, .int .i64 0, .int .i64 0, .int .i64 0, .int .i64 0, .int .i64 0, .slice none 0 0, .slice none 0 0]) := by unfold zrB; kernel_rfl
theorem fld54_0 : fldB Try.prog 54 0 0 = true := by kernel_rfl
theorem fd54_0 : (match Try.prog.underlying 54 with | some (.struct fs) => (fs[0]?).map (fun fd => (fd.offset, fd.type)) | _ => none) = some (0, 28) := by kernel_rfl
theorem fld54_1 : fldB Try.prog 54 1 11 = true := by kernel_rfl
theorem fd54_1 : (match Try.prog.underlying 54 with | some (.struct fs) => (fs[1]?).map (fun fd => (fd.offset, fd.type)) | _ => none) = some (11, 51) := by kernel_rfl
theorem fld54_2 : fldB Try.prog 54 2 12 = true := by kernel_rfl
theorem fd54_2 : (match Try.prog.underlying 54 with | some (.struct fs) => (fs[2]?).map (fun fd => (fd.offset, fd.type)) | _ => none) = some (12, 52) := by kernel_rfl
theorem pl54 : plB Try.prog 54 [(0, 11), (11, 1), (12, 1)] = true := by kernel_rfl
theorem sz59 : szB Try.prog 59 false 1 = true := by kernel_rfl
theorem by59 : byB Try.prog 59 4 = true := by kernel_rfl
theorem zr59 : zrB Try.prog 59 (.float .f32 0) := by unfold zrB; kernel_rfl
theorem flt59 : fltB Try.prog 59 .f32 = true := by kernel_rfl
theorem sz60 : szB Try.prog 60 true 64 = true := by kernel_rfl
theorem by60 : byB Try.prog 60 256 = true := by kernel_rfl
theorem zr60 : zrB Try.prog 60 (.agg #[.float .f32 0, .float .f32 0, .float .f32 0, .float .f32 0, .float .f32 0, .float .f32 0, .float .f32 0, .float .f32 0, .float .f32 0, .float .f32 0, .float .f32 0, .float .f32 0, .float .f32 0, .float .f32 0, .float .f32 0, .float .f32 0, .float .f32 0, .float .f32 0, .float .f32 0, .float .f32 0, .float .f32 0, .float .f32 0, .float .f32 0, .float .f32 0, .float .f32 0, .float .f32 0, .float .f32 0, .float .f32 0, .float .f32 0, .float .f32 0, .float .f32 0, .float .f32 0, .float .f32 0, .float .f32 0, .float .f32 0, .float .f32 0, .float .f32 0, .float .f32 0, .float .f32 0, .float .f32 0, .float .f32 0, .float .f32 0, .float .f32 0, .float .f32 0, .float .f32 0, .float .f32 0, .float .f32 0, .float .f32 0, .float .f32 0, .float .f32 0, .float .f32 0, .float .f32 0, .float .f32 0, .float .f32 0, .float .f32 0, .float .f32 0, .float .f32 0, .float .f32 0, .float .f32 0, .float .f32 0, .float .f32 0, .float .f32 0, .float .f32 0, .float .f32 0]) := by unfold zrB; kernel_rfl
theorem ar60 : arB Try.prog 60 64 59 1 = true := by kernel_rfl
theorem sz61 : szB Try.prog 61 true 64 = true := by kernel_rfl
theorem by61 : byB Try.prog 61 256 = true := by kernel_rfl
theorem zr61 : zrB Try.prog 61 (.agg #[.float .f32 0, .float .f32 0, .float .f32 0, .float .f32 0, .float .f32 0, .float .f32 0, .float .f32 0, .float .f32 0, .float .f32 0, .float .f32 0, .float .f32 0, .float .f32 0, .float .f32 0, .float .f32 0, .float .f32 0, .float .f32 0, .float .f32 0, .float .f32 0, .float .f32 0, .float .f32 0, .float .f32 0, .float .f32 0, .float .f32 0, .float .f32 0, .float .f32 0, .float .f32 0, .float .f32 0, .float .f32 0, .float .f32 0, .float .f32 0, .float .f32 0, .float .f32 0, .float .f32 0, .float .f32 0, .float .f32 0, .float .f32 0, .float .f32 0, .float .f32 0, .float .f32 0, .float .f32 0, .float .f32 0, .float .f32 0, .float .f32 0, .float .f32 0, .float .f32 0, .float .f32 0, .float .f32 0, .float .f32 0, .float .f32 0, .float .f32 0, .float .f32 0, .float .f32 0, .float .f32 0, .float .f32 0, .float .f32 0, .float .f32 0, .float .f32 0, .float .f32 0, .float .f32 0, .float .f32 0, .float .f32 0, .float .f32 0, .float .f32 0, .float .f32 0]) := by unfold zrB; kernel_rfl
theorem ar61 : arB Try.prog 61 64 59 1 = true := by kernel_rfl
theorem sz75 : szB Try.prog 75 true 2 = true := by kernel_rfl
theorem by75 : byB Try.prog 75 16 = true := by kernel_rfl
theorem zr75 : zrB Try.prog 75 (.agg #[.int .i64 0, .int .i64 0]) := by unfold zrB; kernel_rfl
theorem ar75 : arB Try.prog 75 2 3 1 = true := by kernel_rfl
theorem eqi75 : EqI Try.prog 75 2 := by
  intro xs ys hx hy w
  match xs, ys, hx, hy with
  | [a0, a1], [b0, b1], _, _ =>
    refine ⟨fun x y => run_eqGuard_agg w .eql 75 x y _ _ (by kernel_rfl), fun x y => run_eqGuard_agg w .neq 75 x y _ _ (by kernel_rfl), ?_⟩
    have u := Try.underlying3
    obtain ⟨i, hi, _⟩ := arB_info ar75
    rw [show (10000 : Nat) = 9998 + 1 + 1 from rfl, run_equalIn_array w (9998 + 1) _ _ (arB_under ar75) hi, show Try.prog.cellsOf 3 = 1 from by kernel_rfl]
    simp [Op.eqItems, List.range, List.range.loop, part, isAgg, run_underlying u, iW, run_equalIn_int, u, Result.andThen]
    (repeat' split) <;> simp_all
theorem sz84 : szB Try.prog 84 false 1 = true := by kernel_rfl
theorem by84 : byB Try.prog 84 24 = true := by kernel_rfl
theorem zr84 : zrB Try.prog 84 (.slice none 0 0) := by unfold zrB; kernel_rfl
theorem sl84 : slB Try.prog 84 59 1 = true := by kernel_rfl
theorem isl84 : isSl Try.prog 84 = true := by kernel_rfl
theorem sz85 : szB Try.prog 85 true 2 = true := by kernel_rfl
theorem by85 : byB Try.prog 85 32 = true := by kernel_rfl
theorem zr85 : zrB Try.prog 85 (.agg #[.int .i64 0, .slice none 0 0]) := by unfold zrB; kernel_rfl
theorem fld85_0 : fldB Try.prog 85 0 0 = true := by kernel_rfl
theorem fd85_0 : (match Try.prog.underlying 85 with | some (.struct fs) => (fs[0]?).map (fun fd => (fd.offset, fd.type)) | _ => none) = some (0, 3) := by kernel_rfl
theorem fld85_1 : fldB Try.prog 85 1 1 = true := by kernel_rfl
theorem fd85_1 : (match Try.prog.underlying 85 with | some (.struct fs) => (fs[1]?).map (fun fd => (fd.offset, fd.type)) | _ => none) = some (1, 84) := by kernel_rfl
theorem pl85 : plB Try.prog 85 [(0, 1), (1, 1)] = true := by kernel_rfl
theorem sz86 : szB Try.prog 86 true 2 = true := by kernel_rfl
theorem by86 : byB Try.prog 86 32 = true := by kernel_rfl
theorem zr86 : zrB Try.prog 86 (.agg #[.int .i64 0, .slice none 0 0]) := by unfold zrB; kernel_rfl
theorem fld86_0 : fldB Try.prog 86 0 0 = true := by kernel_rfl
theorem fd86_0 : (match Try.prog.underlying 86 with | some (.struct fs) => (fs[0]?).map (fun fd => (fd.offset, fd.type)) | _ => none) = some (0, 3) := by kernel_rfl
theorem fld86_1 : fldB Try.prog 86 1 1 = true := by kernel_rfl
theorem fd86_1 : (match Try.prog.underlying 86 with | some (.struct fs) => (fs[1]?).map (fun fd => (fd.offset, fd.type)) | _ => none) = some (1, 84) := by kernel_rfl
theorem pl86 : plB Try.prog 86 [(0, 1), (1, 1)] = true := by kernel_rfl
theorem sz95 : szB Try.prog 95 true 61 = true := by kernel_rfl
theorem by95 : byB Try.prog 95 488 = true := by kernel_rfl
theorem zr95 : zrB Try.prog 95 (.agg #[.int .i64 0, .int .i64 0, .int .i64 0, .int .i64 0, .int .i64 0, .int .i64 0, .int .i64 0, .int .i64 0, .int .i64 0, .int .i64 0, .int .i64 0, .int .i64 0, .int .i64 0, .int .i64 0, .int .i64 0, .int .i64 0, .int .i64 0, .int .i64 0, .int .i64 0, .int .i64 0, .int .i64 0, .int .i64 0, .int .i64 0, .int .i64 0, .int .i64 0, .int .i64 0, .int .i64 0, .int .i64 0, .int .i64 0, .int .i64 0, .int .i64 0, .int .i64 0, .int .i64 0, .int .i64 0, .int .i64 0, .int .i64 0, .int .i64 0, .int .i64 0, .int .i64 0, .int .i64 0, .int .i64 0, .int .i64 0, .int .i64 0, .int .i64 0, .int .i64 0, .int .i64 0, .int .i64 0, .int .i64 0, .int .i64 0, .int .i64 0, .int .i64 0, .int .i64 0, .int .i64 0, .int .i64 0, .int .i64 0, .int .i64 0, .int .i64 0, .int .i64 0, .int .i64 0, .int .i64 0, .int .i64 0]) := by unfold zrB; kernel_rfl
theorem ar95 : arB Try.prog 95 61 3 1 = true := by kernel_rfl
theorem sz119 : szB Try.prog 119 true 64 = true := by kernel_rfl
theorem by119 : byB Try.prog 119 512 = true := by kernel_rfl
theorem zr119 : zrB Try.prog 119 (.agg #[.int .i64 0, .int .i64 0, .int .i64 0, .int .i64 0, .int .i64 0, .int .i64 0, .int .i64 0, .int .i64 0, .int .i64 0, .int .i64 0, .int .i64 0, .int .i64 0, .int .i64 0, .int .i64 0, .int .i64 0, .int .i64 0, .int .i64 0, .int .i64 0, .int .i64 0, .int .i64 0, .int .i64 0, .int .i64 0, .int .i64 0, .int .i64 0, .int .i64 0, .int .i64 0, .int .i64 0, .int .i64 0, .int .i64 0, .int .i64 0, .int .i64 0, .int .i64 0, .int .i64 0, .int .i64 0, .int .i64 0, .int .i64 0, .int .i64 0, .int .i64 0, .int .i64 0, .int .i64 0, .int .i64 0, .int .i64 0, .int .i64 0, .int .i64 0, .int .i64 0, .int .i64 0, .int .i64 0, .int .i64 0, .int .i64 0, .int .i64 0, .int .i64 0, .int .i64 0, .int .i64 0, .int .i64 0, .int .i64 0, .int .i64 0, .int .i64 0, .int .i64 0, .int .i64 0, .int .i64 0, .int .i64 0, .int .i64 0, .int .i64 0, .int .i64 0]) := by unfold zrB; kernel_rfl
theorem ar119 : arB Try.prog 119 64 3 1 = true := by kernel_rfl
theorem sz120 : szB Try.prog 120 true 64 = true := by kernel_rfl
theorem by120 : byB Try.prog 120 512 = true := by kernel_rfl
theorem zr120 : zrB Try.prog 120 (.agg #[.int .i64 0, .int .i64 0, .int .i64 0, .int .i64 0, .int .i64 0, .int .i64 0, .int .i64 0, .int .i64 0, .int .i64 0, .int .i64 0, .int .i64 0, .int .i64 0, .int .i64 0, .int .i64 0, .int .i64 0, .int .i64 0, .int .i64 0, .int .i64 0, .int .i64 0, .int .i64 0, .int .i64 0, .int .i64 0, .int .i64 0, .int .i64 0, .int .i64 0, .int .i64 0, .int .i64 0, .int .i64 0, .int .i64 0, .int .i64 0, .int .i64 0, .int .i64 0, .int .i64 0, .int .i64 0, .int .i64 0, .int .i64 0, .int .i64 0, .int .i64 0, .int .i64 0, .int .i64 0, .int .i64 0, .int .i64 0, .int .i64 0, .int .i64 0, .int .i64 0, .int .i64 0, .int .i64 0, .int .i64 0, .int .i64 0, .int .i64 0, .int .i64 0, .int .i64 0, .int .i64 0, .int .i64 0, .int .i64 0, .int .i64 0, .int .i64 0, .int .i64 0, .int .i64 0, .int .i64 0, .int .i64 0, .int .i64 0, .int .i64 0, .int .i64 0]) := by unfold zrB; kernel_rfl
theorem ar120 : arB Try.prog 120 64 3 1 = true := by kernel_rfl
theorem sz124 : szB Try.prog 124 true 64 = true := by kernel_rfl
theorem by124 : byB Try.prog 124 512 = true := by kernel_rfl
theorem zr124 : zrB Try.prog 124 (.agg #[.int .i64 0, .int .i64 0, .int .i64 0, .int .i64 0, .int .i64 0, .int .i64 0, .int .i64 0, .int .i64 0, .int .i64 0, .int .i64 0, .int .i64 0, .int .i64 0, .int .i64 0, .int .i64 0, .int .i64 0, .int .i64 0, .int .i64 0, .int .i64 0, .int .i64 0, .int .i64 0, .int .i64 0, .int .i64 0, .int .i64 0, .int .i64 0, .int .i64 0, .int .i64 0, .int .i64 0, .int .i64 0, .int .i64 0, .int .i64 0, .int .i64 0, .int .i64 0, .int .i64 0, .int .i64 0, .int .i64 0, .int .i64 0, .int .i64 0, .int .i64 0, .int .i64 0, .int .i64 0, .int .i64 0, .int .i64 0, .int .i64 0, .int .i64 0, .int .i64 0, .int .i64 0, .int .i64 0, .int .i64 0, .int .i64 0, .int .i64 0, .int .i64 0, .int .i64 0, .int .i64 0, .int .i64 0, .int .i64 0, .int .i64 0, .int .i64 0, .int .i64 0, .int .i64 0, .int .i64 0, .int .i64 0, .int .i64 0, .int .i64 0, .int .i64 0]) := by unfold zrB; kernel_rfl
theorem ar124 : arB Try.prog 124 64 3 1 = true := by kernel_rfl
theorem sz133 : szB Try.prog 133 true 11 = true := by kernel_rfl
theorem by133 : byB Try.prog 133 104 = true := by kernel_rfl
theorem zr133 : zrB Try.prog 133 (.agg #[.slice none 0 0, .int .i64 0, .int .i64 0, .int .i64 0, .int .i64 0, .int .i64 0, .int .i64 0, .int .i64 0, .int .i64 0, .int .i64 0, .int .i64 0]) := by unfold zrB; kernel_rfl
theorem fld133_0 : fldB Try.prog 133 0 0 = true := by kernel_rfl
theorem fd133_0 : (match Try.prog.underlying 133 with | some (.struct fs) => (fs[0]?).map (fun fd => (fd.offset, fd.type)) | _ => none) = some (0, 28) := by kernel_rfl
theorem pl133 : plB Try.prog 133 [(0, 11)] = true := by kernel_rfl
theorem sz134 : szB Try.prog 134 true 11 = true := by kernel_rfl
theorem by134 : byB Try.prog 134 104 = true := by kernel_rfl
theorem zr134 : zrB Try.prog 134 (.agg #[.slice none 0 0, .int .i64 0, .int .i64 0, .int .i64 0, .int .i64 0, .int .i64 0, .int .i64 0, .int .i64 0, .int .i64 0, .int .i64 0, .int .i64 0]) := by unfold zrB; kernel_rfl
theorem fld134_0 : fldB Try.prog 134 0 0 = true := by kernel_rfl
theorem fd134_0 : (match Try.prog.underlying 134 with | some (.struct fs) => (fs[0]?).map (fun fd => (fd.offset, fd.type)) | _ => none) = some (0, 28) := by kernel_rfl
theorem pl134 : plB Try.prog 134 [(0, 11)] = true := by kernel_rfl
theorem sz135 : szB Try.prog 135 true 13 = true := by kernel_rfl
theorem by135 : byB Try.prog 135 152 = true := by kernel_rfl
theorem zr135 : zrB Try.prog 135 (.agg #[.slice none 0 0, .int .i64 0, .int .i64 0, .int .i64 0, .int .i64 0, .int .i64 0, .int .i64 0, .int .i64 0, .int .i64 0, .int .i64 0, .int .i64 0, .slice none 0 0, .slice none 0 0]) := by unfold zrB; kernel_rfl
theorem fld135_0 : fldB Try.prog 135 0 0 = true := by kernel_rfl
theorem fd135_0 : (match Try.prog.underlying 135 with | some (.struct fs) => (fs[0]?).map (fun fd => (fd.offset, fd.type)) | _ => none) = some (0, 134) := by kernel_rfl
theorem fld135_1 : fldB Try.prog 135 1 11 = true := by kernel_rfl
theorem fd135_1 : (match Try.prog.underlying 135 with | some (.struct fs) => (fs[1]?).map (fun fd => (fd.offset, fd.type)) | _ => none) = some (11, 51) := by kernel_rfl
theorem fld135_2 : fldB Try.prog 135 2 12 = true := by kernel_rfl
theorem fd135_2 : (match Try.prog.underlying 135 with | some (.struct fs) => (fs[2]?).map (fun fd => (fd.offset, fd.type)) | _ => none) = some (12, 41) := by kernel_rfl
theorem pl135 : plB Try.prog 135 [(0, 11), (11, 1), (12, 1)] = true := by kernel_rfl
theorem sz136 : szB Try.prog 136 true 13 = true := by kernel_rfl
theorem by136 : byB Try.prog 136 152 = true := by kernel_rfl
theorem zr136 : zrB Try.prog 136 (.agg #[.slice none 0 0, .int .i64 0, .int .i64 0, .int .i64 0, .int .i64 0, .int .i64 0, .int .i64 0, .int .i64 0, .int .i64 0, .int .i64 0, .int .i64 0, .slice none 0 0, .slice none 0 0]) := by unfold zrB; kernel_rfl
theorem fld136_0 : fldB Try.prog 136 0 0 = true := by kernel_rfl
theorem fd136_0 : (match Try.prog.underlying 136 with | some (.struct fs) => (fs[0]?).map (fun fd => (fd.offset, fd.type)) | _ => none) = some (0, 134) := by kernel_rfl
theorem fld136_1 : fldB Try.prog 136 1 11 = true := by kernel_rfl
theorem fd136_1 : (match Try.prog.underlying 136 with | some (.struct fs) => (fs[1]?).map (fun fd => (fd.offset, fd.type)) | _ => none) = some (11, 51) := by kernel_rfl
theorem fld136_2 : fldB Try.prog 136 2 12 = true := by kernel_rfl
theorem fd136_2 : (match Try.prog.underlying 136 with | some (.struct fs) => (fs[2]?).map (fun fd => (fd.offset, fd.type)) | _ => none) = some (12, 41) := by kernel_rfl
theorem pl136 : plB Try.prog 136 [(0, 11), (11, 1), (12, 1)] = true := by kernel_rfl
theorem sz152 : szB Try.prog 152 true 64 = true := by kernel_rfl
theorem by152 : byB Try.prog 152 512 = true := by kernel_rfl
theorem zr152 : zrB Try.prog 152 (.agg #[.int .i64 0, .int .i64 0, .int .i64 0, .int .i64 0, .int .i64 0, .int .i64 0, .int .i64 0, .int .i64 0, .int .i64 0, .int .i64 0, .int .i64 0, .int .i64 0, .int .i64 0, .int .i64 0, .int .i64 0, .int .i64 0, .int .i64 0, .int .i64 0, .int .i64 0, .int .i64 0, .int .i64 0, .int .i64 0, .int .i64 0, .int .i64 0, .int .i64 0, .int .i64 0, .int .i64 0, .int .i64 0, .int .i64 0, .int .i64 0, .int .i64 0, .int .i64 0, .int .i64 0, .int .i64 0, .int .i64 0, .int .i64 0, .int .i64 0, .int .i64 0, .int .i64 0, .int .i64 0, .int .i64 0, .int .i64 0, .int .i64 0, .int .i64 0, .int .i64 0, .int .i64 0, .int .i64 0, .int .i64 0, .int .i64 0, .int .i64 0, .int .i64 0, .int .i64 0, .int .i64 0, .int .i64 0, .int .i64 0, .int .i64 0, .int .i64 0, .int .i64 0, .int .i64 0, .int .i64 0, .int .i64 0, .int .i64 0, .int .i64 0, .int .i64 0]) := by unfold zrB; kernel_rfl
theorem ar152 : arB Try.prog 152 64 3 1 = true := by kernel_rfl
theorem sz154 : szB Try.prog 154 false 1 = true := by kernel_rfl
theorem by154 : byB Try.prog 154 8 = true := by kernel_rfl
theorem zr154 : zrB Try.prog 154 (.pointer none) := by unfold zrB; kernel_rfl
theorem sz155 : szB Try.prog 155 false 1 = true := by kernel_rfl
theorem by155 : byB Try.prog 155 24 = true := by kernel_rfl
theorem zr155 : zrB Try.prog 155 (.slice none 0 0) := by unfold zrB; kernel_rfl
theorem sl155 : slB Try.prog 155 31 1 = true := by kernel_rfl
theorem isl155 : isSl Try.prog 155 = true := by kernel_rfl
theorem sz162 : szB Try.prog 162 false 1 = true := by kernel_rfl
theorem by162 : byB Try.prog 162 8 = true := by kernel_rfl
theorem zr162 : zrB Try.prog 162 (.pointer none) := by unfold zrB; kernel_rfl
theorem sz163 : szB Try.prog 163 false 1 = true := by kernel_rfl
theorem by163 : byB Try.prog 163 4 = true := by kernel_rfl
theorem zr163 : zrB Try.prog 163 (.int .u32 0) := by unfold zrB; kernel_rfl
theorem int163 : intB Try.prog 163 .u32 = true := by kernel_rfl
theorem sz166 : szB Try.prog 166 false 1 = true := by kernel_rfl
theorem by166 : byB Try.prog 166 8 = true := by kernel_rfl
theorem zr166 : zrB Try.prog 166 (.pointer none) := by unfold zrB; kernel_rfl
theorem sz171 : szB Try.prog 171 false 1 = true := by kernel_rfl
theorem by171 : byB Try.prog 171 8 = true := by kernel_rfl
theorem zr171 : zrB Try.prog 171 (.pointer none) := by unfold zrB; kernel_rfl
theorem sz177 : szB Try.prog 177 false 1 = true := by kernel_rfl
theorem by177 : byB Try.prog 177 8 = true := by kernel_rfl
theorem zr177 : zrB Try.prog 177 (.float .f64 0) := by unfold zrB; kernel_rfl
theorem flt177 : fltB Try.prog 177 .f64 = true := by kernel_rfl
theorem sz178 : szB Try.prog 178 true 4 = true := by kernel_rfl
theorem by178 : byB Try.prog 178 32 = true := by kernel_rfl
theorem zr178 : zrB Try.prog 178 (.agg #[.int .i64 0, .int .i64 0, .int .i64 0, .int .i64 0]) := by unfold zrB; kernel_rfl
theorem ar178 : arB Try.prog 178 4 3 1 = true := by kernel_rfl
theorem eqi178 : EqI Try.prog 178 4 := by
  intro xs ys hx hy w
  match xs, ys, hx, hy with
  | [a0, a1, a2, a3], [b0, b1, b2, b3], _, _ =>
    refine ⟨fun x y => run_eqGuard_agg w .eql 178 x y _ _ (by kernel_rfl), fun x y => run_eqGuard_agg w .neq 178 x y _ _ (by kernel_rfl), ?_⟩
    have u := Try.underlying3
    obtain ⟨i, hi, _⟩ := arB_info ar178
    rw [show (10000 : Nat) = 9998 + 1 + 1 from rfl, run_equalIn_array w (9998 + 1) _ _ (arB_under ar178) hi, show Try.prog.cellsOf 3 = 1 from by kernel_rfl]
    simp [Op.eqItems, List.range, List.range.loop, part, isAgg, run_underlying u, iW, run_equalIn_int, u, Result.andThen]
    (repeat' split) <;> simp_all
theorem sz179 : szB Try.prog 179 true 2 = true := by kernel_rfl
theorem by179 : byB Try.prog 179 16 = true := by kernel_rfl
theorem zr179 : zrB Try.prog 179 (.agg #[.int .i64 0, .int .i64 0]) := by unfold zrB; kernel_rfl
theorem fld179_0 : fldB Try.prog 179 0 0 = true := by kernel_rfl
theorem fd179_0 : (match Try.prog.underlying 179 with | some (.struct fs) => (fs[0]?).map (fun fd => (fd.offset, fd.type)) | _ => none) = some (0, 3) := by kernel_rfl
theorem fld179_1 : fldB Try.prog 179 1 1 = true := by kernel_rfl
theorem fd179_1 : (match Try.prog.underlying 179 with | some (.struct fs) => (fs[1]?).map (fun fd => (fd.offset, fd.type)) | _ => none) = some (1, 3) := by kernel_rfl
theorem pl179 : plB Try.prog 179 [(0, 1), (1, 1)] = true := by kernel_rfl
theorem eqi179 : EqI Try.prog 179 2 := by
  intro xs ys hx hy w
  match xs, ys, hx, hy with
  | [a0, a1], [b0, b1], _, _ =>
    refine ⟨fun x y => run_eqGuard_agg w .eql 179 x y _ _ (by kernel_rfl), fun x y => run_eqGuard_agg w .neq 179 x y _ _ (by kernel_rfl), ?_⟩
    have hf : (Try.prog.fieldsOf 179).toList = [⟨ "Lo", 3, 0, false, "", "", 0⟩, ⟨ "Hi", 3, 1, false, "", "", 8⟩] := by kernel_rfl
    rw [show (10000 : Nat) = 9998 + 1 + 1 from rfl, run_equalIn_struct w (9998 + 1) 179 _ _ (by kernel_rfl) (by kernel_rfl), hf]
    have u3 := Try.underlying3; 
    simp [Op.eqFields, part, isAgg, run_underlying u3, iW, run_equalIn_int, u3, Result.andThen]
    (repeat' split) <;> simp_all
theorem sz180 : szB Try.prog 180 true 2 = true := by kernel_rfl
theorem by180 : byB Try.prog 180 16 = true := by kernel_rfl
theorem zr180 : zrB Try.prog 180 (.agg #[.int .i64 0, .int .i64 0]) := by unfold zrB; kernel_rfl
theorem fld180_0 : fldB Try.prog 180 0 0 = true := by kernel_rfl
theorem fd180_0 : (match Try.prog.underlying 180 with | some (.struct fs) => (fs[0]?).map (fun fd => (fd.offset, fd.type)) | _ => none) = some (0, 3) := by kernel_rfl
theorem fld180_1 : fldB Try.prog 180 1 1 = true := by kernel_rfl
theorem fd180_1 : (match Try.prog.underlying 180 with | some (.struct fs) => (fs[1]?).map (fun fd => (fd.offset, fd.type)) | _ => none) = some (1, 3) := by kernel_rfl
theorem pl180 : plB Try.prog 180 [(0, 1), (1, 1)] = true := by kernel_rfl
theorem eqi180 : EqI Try.prog 180 2 := by
  intro xs ys hx hy w
  match xs, ys, hx, hy with
  | [a0, a1], [b0, b1], _, _ =>
    refine ⟨fun x y => run_eqGuard_agg w .eql 180 x y _ _ (by kernel_rfl), fun x y => run_eqGuard_agg w .neq 180 x y _ _ (by kernel_rfl), ?_⟩
    have hf : (Try.prog.fieldsOf 180).toList = [⟨ "Lo", 3, 0, false, "", "", 0⟩, ⟨ "Hi", 3, 1, false, "", "", 8⟩] := by kernel_rfl
    rw [show (10000 : Nat) = 9998 + 1 + 1 from rfl, run_equalIn_struct w (9998 + 1) 180 _ _ (by kernel_rfl) (by kernel_rfl), hf]
    have u3 := Try.underlying3; 
    simp [Op.eqFields, part, isAgg, run_underlying u3, iW, run_equalIn_int, u3, Result.andThen]
    (repeat' split) <;> simp_all
theorem sz183 : szB Try.prog 183 true 6 = true := by kernel_rfl
theorem by183 : byB Try.prog 183 48 = true := by kernel_rfl
theorem zr183 : zrB Try.prog 183 (.agg #[.int .i64 0, .int .i64 0, .int .i64 0, .int .i64 0, .int .i64 0, .int .i64 0]) := by unfold zrB; kernel_rfl
theorem fld183_0 : fldB Try.prog 183 0 0 = true := by kernel_rfl
theorem fd183_0 : (match Try.prog.underlying 183 with | some (.struct fs) => (fs[0]?).map (fun fd => (fd.offset, fd.type)) | _ => none) = some (0, 3) := by kernel_rfl
theorem fld183_1 : fldB Try.prog 183 1 1 = true := by kernel_rfl
theorem fd183_1 : (match Try.prog.underlying 183 with | some (.struct fs) => (fs[1]?).map (fun fd => (fd.offset, fd.type)) | _ => none) = some (1, 3) := by kernel_rfl
theorem fld183_2 : fldB Try.prog 183 2 2 = true := by kernel_rfl
theorem fd183_2 : (match Try.prog.underlying 183 with | some (.struct fs) => (fs[2]?).map (fun fd => (fd.offset, fd.type)) | _ => none) = some (2, 3) := by kernel_rfl
theorem fld183_3 : fldB Try.prog 183 3 3 = true := by kernel_rfl
theorem fd183_3 : (match Try.prog.underlying 183 with | some (.struct fs) => (fs[3]?).map (fun fd => (fd.offset, fd.type)) | _ => none) = some (3, 3) := by kernel_rfl
theorem fld183_4 : fldB Try.prog 183 4 4 = true := by kernel_rfl
theorem fd183_4 : (match Try.prog.underlying 183 with | some (.struct fs) => (fs[4]?).map (fun fd => (fd.offset, fd.type)) | _ => none) = some (4, 3) := by kernel_rfl
theorem fld183_5 : fldB Try.prog 183 5 5 = true := by kernel_rfl
theorem fd183_5 : (match Try.prog.underlying 183 with | some (.struct fs) => (fs[5]?).map (fun fd => (fd.offset, fd.type)) | _ => none) = some (5, 3) := by kernel_rfl
theorem pl183 : plB Try.prog 183 [(0, 1), (1, 1), (2, 1), (3, 1), (4, 1), (5, 1)] = true := by kernel_rfl
theorem eqi183 : EqI Try.prog 183 6 := by
  intro xs ys hx hy w
  match xs, ys, hx, hy with
  | [a0, a1, a2, a3, a4, a5], [b0, b1, b2, b3, b4, b5], _, _ =>
    refine ⟨fun x y => run_eqGuard_agg w .eql 183 x y _ _ (by kernel_rfl), fun x y => run_eqGuard_agg w .neq 183 x y _ _ (by kernel_rfl), ?_⟩
    have hf : (Try.prog.fieldsOf 183).toList = [⟨ "X1", 3, 0, false, "", "", 0⟩, ⟨ "H1", 3, 1, false, "", "", 8⟩, ⟨ "V1", 3, 2, false, "", "", 16⟩, ⟨ "X2", 3, 3, false, "", "", 24⟩, ⟨ "H2", 3, 4, false, "", "", 32⟩, ⟨ "V2", 3, 5, false, "", "", 40⟩] := by kernel_rfl
    rw [show (10000 : Nat) = 9998 + 1 + 1 from rfl, run_equalIn_struct w (9998 + 1) 183 _ _ (by kernel_rfl) (by kernel_rfl), hf]
    have u3 := Try.underlying3; 
    simp [Op.eqFields, part, isAgg, run_underlying u3, iW, run_equalIn_int, u3, Result.andThen]
    (repeat' split) <;> simp_all
theorem sz184 : szB Try.prog 184 true 6 = true := by kernel_rfl
theorem by184 : byB Try.prog 184 48 = true := by kernel_rfl
theorem zr184 : zrB Try.prog 184 (.agg #[.int .i64 0, .int .i64 0, .int .i64 0, .int .i64 0, .int .i64 0, .int .i64 0]) := by unfold zrB; kernel_rfl
theorem fld184_0 : fldB Try.prog 184 0 0 = true := by kernel_rfl
theorem fd184_0 : (match Try.prog.underlying 184 with | some (.struct fs) => (fs[0]?).map (fun fd => (fd.offset, fd.type)) | _ => none) = some (0, 3) := by kernel_rfl
theorem fld184_1 : fldB Try.prog 184 1 1 = true := by kernel_rfl
theorem fd184_1 : (match Try.prog.underlying 184 with | some (.struct fs) => (fs[1]?).map (fun fd => (fd.offset, fd.type)) | _ => none) = some (1, 3) := by kernel_rfl
theorem fld184_2 : fldB Try.prog 184 2 2 = true := by kernel_rfl
theorem fd184_2 : (match Try.prog.underlying 184 with | some (.struct fs) => (fs[2]?).map (fun fd => (fd.offset, fd.type)) | _ => none) = some (2, 3) := by kernel_rfl
theorem fld184_3 : fldB Try.prog 184 3 3 = true := by kernel_rfl
theorem fd184_3 : (match Try.prog.underlying 184 with | some (.struct fs) => (fs[3]?).map (fun fd => (fd.offset, fd.type)) | _ => none) = some (3, 3) := by kernel_rfl
theorem fld184_4 : fldB Try.prog 184 4 4 = true := by kernel_rfl
theorem fd184_4 : (match Try.prog.underlying 184 with | some (.struct fs) => (fs[4]?).map (fun fd => (fd.offset, fd.type)) | _ => none) = some (4, 3) := by kernel_rfl
theorem fld184_5 : fldB Try.prog 184 5 5 = true := by kernel_rfl
theorem fd184_5 : (match Try.prog.underlying 184 with | some (.struct fs) => (fs[5]?).map (fun fd => (fd.offset, fd.type)) | _ => none) = some (5, 3) := by kernel_rfl
theorem pl184 : plB Try.prog 184 [(0, 1), (1, 1), (2, 1), (3, 1), (4, 1), (5, 1)] = true := by kernel_rfl
theorem eqi184 : EqI Try.prog 184 6 := by
  intro xs ys hx hy w
  match xs, ys, hx, hy with
  | [a0, a1, a2, a3, a4, a5], [b0, b1, b2, b3, b4, b5], _, _ =>
    refine ⟨fun x y => run_eqGuard_agg w .eql 184 x y _ _ (by kernel_rfl), fun x y => run_eqGuard_agg w .neq 184 x y _ _ (by kernel_rfl), ?_⟩
    have hf : (Try.prog.fieldsOf 184).toList = [⟨ "X1", 3, 0, false, "", "", 0⟩, ⟨ "H1", 3, 1, false, "", "", 8⟩, ⟨ "V1", 3, 2, false, "", "", 16⟩, ⟨ "X2", 3, 3, false, "", "", 24⟩, ⟨ "H2", 3, 4, false, "", "", 32⟩, ⟨ "V2", 3, 5, false, "", "", 40⟩] := by kernel_rfl
    rw [show (10000 : Nat) = 9998 + 1 + 1 from rfl, run_equalIn_struct w (9998 + 1) 184 _ _ (by kernel_rfl) (by kernel_rfl), hf]
    have u3 := Try.underlying3; 
    simp [Op.eqFields, part, isAgg, run_underlying u3, iW, run_equalIn_int, u3, Result.andThen]
    (repeat' split) <;> simp_all
theorem sz185 : szB Try.prog 185 true 6 = true := by kernel_rfl
theorem by185 : byB Try.prog 185 48 = true := by kernel_rfl
theorem zr185 : zrB Try.prog 185 (.agg #[.int .i64 0, .int .i64 0, .int .i64 0, .int .i64 0, .int .i64 0, .int .i64 0]) := by unfold zrB; kernel_rfl
theorem fld185_0 : fldB Try.prog 185 0 0 = true := by kernel_rfl
theorem fd185_0 : (match Try.prog.underlying 185 with | some (.struct fs) => (fs[0]?).map (fun fd => (fd.offset, fd.type)) | _ => none) = some (0, 184) := by kernel_rfl
theorem pl185 : plB Try.prog 185 [(0, 6)] = true := by kernel_rfl
theorem sz186 : szB Try.prog 186 true 6 = true := by kernel_rfl
theorem by186 : byB Try.prog 186 48 = true := by kernel_rfl
theorem zr186 : zrB Try.prog 186 (.agg #[.int .i64 0, .int .i64 0, .int .i64 0, .int .i64 0, .int .i64 0, .int .i64 0]) := by unfold zrB; kernel_rfl
theorem fld186_0 : fldB Try.prog 186 0 0 = true := by kernel_rfl
theorem fd186_0 : (match Try.prog.underlying 186 with | some (.struct fs) => (fs[0]?).map (fun fd => (fd.offset, fd.type)) | _ => none) = some (0, 184) := by kernel_rfl
theorem pl186 : plB Try.prog 186 [(0, 6)] = true := by kernel_rfl
theorem sz198 : szB Try.prog 198 false 1 = true := by kernel_rfl
theorem by198 : byB Try.prog 198 8 = true := by kernel_rfl
theorem zr198 : zrB Try.prog 198 (.int .u64 0) := by unfold zrB; kernel_rfl
theorem int198 : intB Try.prog 198 .u64 = true := by kernel_rfl
theorem sz199 : szB Try.prog 199 false 1 = true := by kernel_rfl
theorem by199 : byB Try.prog 199 8 = true := by kernel_rfl
theorem zr199 : zrB Try.prog 199 (.int .u64 0) := by unfold zrB; kernel_rfl
theorem int199 : intB Try.prog 199 .u64 = true := by kernel_rfl
theorem sz200 : szB Try.prog 200 true 2 = true := by kernel_rfl
theorem by200 : byB Try.prog 200 16 = true := by kernel_rfl
theorem zr200 : zrB Try.prog 200 (.agg #[.int .u64 0, .int .u64 0]) := by unfold zrB; kernel_rfl
theorem fld200_0 : fldB Try.prog 200 0 0 = true := by kernel_rfl
theorem fd200_0 : (match Try.prog.underlying 200 with | some (.struct fs) => (fs[0]?).map (fun fd => (fd.offset, fd.type)) | _ => none) = some (0, 199) := by kernel_rfl
theorem fld200_1 : fldB Try.prog 200 1 1 = true := by kernel_rfl
theorem fd200_1 : (match Try.prog.underlying 200 with | some (.struct fs) => (fs[1]?).map (fun fd => (fd.offset, fd.type)) | _ => none) = some (1, 199) := by kernel_rfl
theorem pl200 : plB Try.prog 200 [(0, 1), (1, 1)] = true := by kernel_rfl
theorem eqk200 : EqK Try.prog .u64 200 2 := by
  intro xs ys hx hy w
  match xs, ys, hx, hy with
  | [a0, a1], [b0, b1], _, _ =>
    refine ⟨fun x y => run_eqGuard_agg w .eql 200 x y _ _ (by kernel_rfl), fun x y => run_eqGuard_agg w .neq 200 x y _ _ (by kernel_rfl), ?_⟩
    have hf : (Try.prog.fieldsOf 200).toList = [⟨ "high", 199, 0, false, "", "couplant/ray", 0⟩, ⟨ "low", 199, 1, false, "", "couplant/ray", 8⟩] := by kernel_rfl
    rw [show (10000 : Nat) = 9998 + 1 + 1 from rfl, run_equalIn_struct w (9998 + 1) 200 _ _ (by kernel_rfl) (by kernel_rfl), hf]
    have u199 := Try.underlying199; 
    simp [Op.eqFields, part, isAgg, run_underlying u199, kW, run_equalIn_int, u199, Result.andThen]
    (repeat' split) <;> simp_all
theorem sz201 : szB Try.prog 201 true 2 = true := by kernel_rfl
theorem by201 : byB Try.prog 201 16 = true := by kernel_rfl
theorem zr201 : zrB Try.prog 201 (.agg #[.int .u64 0, .int .u64 0]) := by unfold zrB; kernel_rfl
theorem fld201_0 : fldB Try.prog 201 0 0 = true := by kernel_rfl
theorem fd201_0 : (match Try.prog.underlying 201 with | some (.struct fs) => (fs[0]?).map (fun fd => (fd.offset, fd.type)) | _ => none) = some (0, 199) := by kernel_rfl
theorem fld201_1 : fldB Try.prog 201 1 1 = true := by kernel_rfl
theorem fd201_1 : (match Try.prog.underlying 201 with | some (.struct fs) => (fs[1]?).map (fun fd => (fd.offset, fd.type)) | _ => none) = some (1, 199) := by kernel_rfl
theorem pl201 : plB Try.prog 201 [(0, 1), (1, 1)] = true := by kernel_rfl
theorem eqk201 : EqK Try.prog .u64 201 2 := by
  intro xs ys hx hy w
  match xs, ys, hx, hy with
  | [a0, a1], [b0, b1], _, _ =>
    refine ⟨fun x y => run_eqGuard_agg w .eql 201 x y _ _ (by kernel_rfl), fun x y => run_eqGuard_agg w .neq 201 x y _ _ (by kernel_rfl), ?_⟩
    have hf : (Try.prog.fieldsOf 201).toList = [⟨ "high", 199, 0, false, "", "couplant/ray", 0⟩, ⟨ "low", 199, 1, false, "", "couplant/ray", 8⟩] := by kernel_rfl
    rw [show (10000 : Nat) = 9998 + 1 + 1 from rfl, run_equalIn_struct w (9998 + 1) 201 _ _ (by kernel_rfl) (by kernel_rfl), hf]
    have u199 := Try.underlying199; 
    simp [Op.eqFields, part, isAgg, run_underlying u199, kW, run_equalIn_int, u199, Result.andThen]
    (repeat' split) <;> simp_all
theorem sz207 : szB Try.prog 207 true 4 = true := by kernel_rfl
theorem by207 : byB Try.prog 207 40 = true := by kernel_rfl
theorem zr207 : zrB Try.prog 207 (.agg #[.pointer none, .pointer none, .pointer none, .string ⟨#[]⟩]) := by unfold zrB; kernel_rfl
theorem fld207_0 : fldB Try.prog 207 0 0 = true := by kernel_rfl
theorem fd207_0 : (match Try.prog.underlying 207 with | some (.struct fs) => (fs[0]?).map (fun fd => (fd.offset, fd.type)) | _ => none) = some (0, 17) := by kernel_rfl
theorem fld207_1 : fldB Try.prog 207 1 1 = true := by kernel_rfl
theorem fd207_1 : (match Try.prog.underlying 207 with | some (.struct fs) => (fs[1]?).map (fun fd => (fd.offset, fd.type)) | _ => none) = some (1, 17) := by kernel_rfl
theorem fld207_2 : fldB Try.prog 207 2 2 = true := by kernel_rfl
theorem fd207_2 : (match Try.prog.underlying 207 with | some (.struct fs) => (fs[2]?).map (fun fd => (fd.offset, fd.type)) | _ => none) = some (2, 17) := by kernel_rfl
theorem fld207_3 : fldB Try.prog 207 3 3 = true := by kernel_rfl
theorem fd207_3 : (match Try.prog.underlying 207 with | some (.struct fs) => (fs[3]?).map (fun fd => (fd.offset, fd.type)) | _ => none) = some (3, 9) := by kernel_rfl
theorem pl207 : plB Try.prog 207 [(0, 1), (1, 1), (2, 1), (3, 1)] = true := by kernel_rfl
theorem sz208 : szB Try.prog 208 true 4 = true := by kernel_rfl
theorem by208 : byB Try.prog 208 40 = true := by kernel_rfl
theorem zr208 : zrB Try.prog 208 (.agg #[.pointer none, .pointer none, .pointer none, .string ⟨#[]⟩]) := by unfold zrB; kernel_rfl
theorem fld208_0 : fldB Try.prog 208 0 0 = true := by kernel_rfl
theorem fd208_0 : (match Try.prog.underlying 208 with | some (.struct fs) => (fs[0]?).map (fun fd => (fd.offset, fd.type)) | _ => none) = some (0, 17) := by kernel_rfl
theorem fld208_1 : fldB Try.prog 208 1 1 = true := by kernel_rfl
theorem fd208_1 : (match Try.prog.underlying 208 with | some (.struct fs) => (fs[1]?).map (fun fd => (fd.offset, fd.type)) | _ => none) = some (1, 17) := by kernel_rfl
theorem fld208_2 : fldB Try.prog 208 2 2 = true := by kernel_rfl
theorem fd208_2 : (match Try.prog.underlying 208 with | some (.struct fs) => (fs[2]?).map (fun fd => (fd.offset, fd.type)) | _ => none) = some (2, 17) := by kernel_rfl
theorem fld208_3 : fldB Try.prog 208 3 3 = true := by kernel_rfl
theorem fd208_3 : (match Try.prog.underlying 208 with | some (.struct fs) => (fs[3]?).map (fun fd => (fd.offset, fd.type)) | _ => none) = some (3, 9) := by kernel_rfl
theorem pl208 : plB Try.prog 208 [(0, 1), (1, 1), (2, 1), (3, 1)] = true := by kernel_rfl
theorem sz209 : szB Try.prog 209 true 0 = true := by kernel_rfl
theorem by209 : byB Try.prog 209 0 = true := by kernel_rfl
theorem zr209 : zrB Try.prog 209 (.agg #[]) := by unfold zrB; kernel_rfl
theorem ar209 : arB Try.prog 209 0 16 1 = true := by kernel_rfl
theorem sz210 : szB Try.prog 210 true 0 = true := by kernel_rfl
theorem by210 : byB Try.prog 210 0 = true := by kernel_rfl
theorem zr210 : zrB Try.prog 210 (.agg #[]) := by unfold zrB; kernel_rfl
theorem fd210_0 : (match Try.prog.underlying 210 with | some (.struct fs) => (fs[0]?).map (fun fd => (fd.offset, fd.type)) | _ => none) = some (0, 209) := by kernel_rfl
theorem pl210 : plB Try.prog 210 [(0, 0)] = true := by kernel_rfl
theorem sz211 : szB Try.prog 211 true 0 = true := by kernel_rfl
theorem by211 : byB Try.prog 211 0 = true := by kernel_rfl
theorem zr211 : zrB Try.prog 211 (.agg #[]) := by unfold zrB; kernel_rfl
theorem fd211_0 : (match Try.prog.underlying 211 with | some (.struct fs) => (fs[0]?).map (fun fd => (fd.offset, fd.type)) | _ => none) = some (0, 209) := by kernel_rfl
theorem pl211 : plB Try.prog 211 [(0, 0)] = true := by kernel_rfl
theorem sz212 : szB Try.prog 212 false 1 = true := by kernel_rfl
theorem by212 : byB Try.prog 212 1 = true := by kernel_rfl
theorem zr212 : zrB Try.prog 212 (.int .u8 0) := by unfold zrB; kernel_rfl
theorem int212 : intB Try.prog 212 .u8 = true := by kernel_rfl
theorem sz213 : szB Try.prog 213 false 1 = true := by kernel_rfl
theorem by213 : byB Try.prog 213 1 = true := by kernel_rfl
theorem zr213 : zrB Try.prog 213 (.int .u8 0) := by unfold zrB; kernel_rfl
theorem int213 : intB Try.prog 213 .u8 = true := by kernel_rfl
theorem sz215 : szB Try.prog 215 false 1 = true := by kernel_rfl
theorem by215 : byB Try.prog 215 8 = true := by kernel_rfl
theorem zr215 : zrB Try.prog 215 (.pointer none) := by unfold zrB; kernel_rfl
theorem sz216 : szB Try.prog 216 false 1 = true := by kernel_rfl
theorem by216 : byB Try.prog 216 4 = true := by kernel_rfl
theorem zr216 : zrB Try.prog 216 (.int .i32 0) := by unfold zrB; kernel_rfl
theorem int216 : intB Try.prog 216 .i32 = true := by kernel_rfl
theorem sz217 : szB Try.prog 217 false 1 = true := by kernel_rfl
theorem by217 : byB Try.prog 217 4 = true := by kernel_rfl
theorem zr217 : zrB Try.prog 217 (.int .i32 0) := by unfold zrB; kernel_rfl
theorem int217 : intB Try.prog 217 .i32 = true := by kernel_rfl
theorem sz218 : szB Try.prog 218 true 11 = true := by kernel_rfl
theorem by218 : byB Try.prog 218 48 = true := by kernel_rfl
theorem zr218 : zrB Try.prog 218 (.agg #[.int .u64 0, .int .u64 0, .int .u32 0, .int .u8 0, .int .u8 0, .int .u8 0, .int .u8 0, .nilFunc, .pointer none, .int .i32 0, .int .i32 0]) := by unfold zrB; kernel_rfl
theorem fld218_0 : fldB Try.prog 218 0 0 = true := by kernel_rfl
theorem fd218_0 : (match Try.prog.underlying 218 with | some (.struct fs) => (fs[0]?).map (fun fd => (fd.offset, fd.type)) | _ => none) = some (0, 12) := by kernel_rfl
theorem fld218_1 : fldB Try.prog 218 1 1 = true := by kernel_rfl
theorem fd218_1 : (match Try.prog.underlying 218 with | some (.struct fs) => (fs[1]?).map (fun fd => (fd.offset, fd.type)) | _ => none) = some (1, 12) := by kernel_rfl
theorem fld218_2 : fldB Try.prog 218 2 2 = true := by kernel_rfl
theorem fd218_2 : (match Try.prog.underlying 218 with | some (.struct fs) => (fs[2]?).map (fun fd => (fd.offset, fd.type)) | _ => none) = some (2, 163) := by kernel_rfl
theorem fld218_3 : fldB Try.prog 218 3 3 = true := by kernel_rfl
theorem fd218_3 : (match Try.prog.underlying 218 with | some (.struct fs) => (fs[3]?).map (fun fd => (fd.offset, fd.type)) | _ => none) = some (3, 212) := by kernel_rfl
theorem fld218_4 : fldB Try.prog 218 4 4 = true := by kernel_rfl
theorem fd218_4 : (match Try.prog.underlying 218 with | some (.struct fs) => (fs[4]?).map (fun fd => (fd.offset, fd.type)) | _ => none) = some (4, 5) := by kernel_rfl
theorem fld218_5 : fldB Try.prog 218 5 5 = true := by kernel_rfl
theorem fd218_5 : (match Try.prog.underlying 218 with | some (.struct fs) => (fs[5]?).map (fun fd => (fd.offset, fd.type)) | _ => none) = some (5, 5) := by kernel_rfl
theorem fld218_6 : fldB Try.prog 218 6 6 = true := by kernel_rfl
theorem fd218_6 : (match Try.prog.underlying 218 with | some (.struct fs) => (fs[6]?).map (fun fd => (fd.offset, fd.type)) | _ => none) = some (6, 213) := by kernel_rfl
theorem fld218_7 : fldB Try.prog 218 7 7 = true := by kernel_rfl
theorem fd218_7 : (match Try.prog.underlying 218 with | some (.struct fs) => (fs[7]?).map (fun fd => (fd.offset, fd.type)) | _ => none) = some (7, 214) := by kernel_rfl
theorem fld218_8 : fldB Try.prog 218 8 8 = true := by kernel_rfl
theorem fd218_8 : (match Try.prog.underlying 218 with | some (.struct fs) => (fs[8]?).map (fun fd => (fd.offset, fd.type)) | _ => none) = some (8, 215) := by kernel_rfl
theorem fld218_9 : fldB Try.prog 218 9 9 = true := by kernel_rfl
theorem fd218_9 : (match Try.prog.underlying 218 with | some (.struct fs) => (fs[9]?).map (fun fd => (fd.offset, fd.type)) | _ => none) = some (9, 216) := by kernel_rfl
theorem fld218_10 : fldB Try.prog 218 10 10 = true := by kernel_rfl
theorem fd218_10 : (match Try.prog.underlying 218 with | some (.struct fs) => (fs[10]?).map (fun fd => (fd.offset, fd.type)) | _ => none) = some (10, 217) := by kernel_rfl
theorem pl218 : plB Try.prog 218 [(0, 1), (1, 1), (2, 1), (3, 1), (4, 1), (5, 1), (6, 1), (7, 1), (8, 1), (9, 1), (10, 1)] = true := by kernel_rfl
theorem sz219 : szB Try.prog 219 true 11 = true := by kernel_rfl
theorem by219 : byB Try.prog 219 48 = true := by kernel_rfl
theorem zr219 : zrB Try.prog 219 (.agg #[.int .u64 0, .int .u64 0, .int .u32 0, .int .u8 0, .int .u8 0, .int .u8 0, .int .u8 0, .nilFunc, .pointer none, .int .i32 0, .int .i32 0]) := by unfold zrB; kernel_rfl
theorem fld219_0 : fldB Try.prog 219 0 0 = true := by kernel_rfl
theorem fd219_0 : (match Try.prog.underlying 219 with | some (.struct fs) => (fs[0]?).map (fun fd => (fd.offset, fd.type)) | _ => none) = some (0, 12) := by kernel_rfl
theorem fld219_1 : fldB Try.prog 219 1 1 = true := by kernel_rfl
theorem fd219_1 : (match Try.prog.underlying 219 with | some (.struct fs) => (fs[1]?).map (fun fd => (fd.offset, fd.type)) | _ => none) = some (1, 12) := by kernel_rfl
theorem fld219_2 : fldB Try.prog 219 2 2 = true := by kernel_rfl
theorem fd219_2 : (match Try.prog.underlying 219 with | some (.struct fs) => (fs[2]?).map (fun fd => (fd.offset, fd.type)) | _ => none) = some (2, 163) := by kernel_rfl
theorem fld219_3 : fldB Try.prog 219 3 3 = true := by kernel_rfl
theorem fd219_3 : (match Try.prog.underlying 219 with | some (.struct fs) => (fs[3]?).map (fun fd => (fd.offset, fd.type)) | _ => none) = some (3, 212) := by kernel_rfl
theorem fld219_4 : fldB Try.prog 219 4 4 = true := by kernel_rfl
theorem fd219_4 : (match Try.prog.underlying 219 with | some (.struct fs) => (fs[4]?).map (fun fd => (fd.offset, fd.type)) | _ => none) = some (4, 5) := by kernel_rfl
theorem fld219_5 : fldB Try.prog 219 5 5 = true := by kernel_rfl
theorem fd219_5 : (match Try.prog.underlying 219 with | some (.struct fs) => (fs[5]?).map (fun fd => (fd.offset, fd.type)) | _ => none) = some (5, 5) := by kernel_rfl
theorem fld219_6 : fldB Try.prog 219 6 6 = true := by kernel_rfl
theorem fd219_6 : (match Try.prog.underlying 219 with | some (.struct fs) => (fs[6]?).map (fun fd => (fd.offset, fd.type)) | _ => none) = some (6, 213) := by kernel_rfl
theorem fld219_7 : fldB Try.prog 219 7 7 = true := by kernel_rfl
theorem fd219_7 : (match Try.prog.underlying 219 with | some (.struct fs) => (fs[7]?).map (fun fd => (fd.offset, fd.type)) | _ => none) = some (7, 214) := by kernel_rfl
theorem fld219_8 : fldB Try.prog 219 8 8 = true := by kernel_rfl
theorem fd219_8 : (match Try.prog.underlying 219 with | some (.struct fs) => (fs[8]?).map (fun fd => (fd.offset, fd.type)) | _ => none) = some (8, 215) := by kernel_rfl
theorem fld219_9 : fldB Try.prog 219 9 9 = true := by kernel_rfl
theorem fd219_9 : (match Try.prog.underlying 219 with | some (.struct fs) => (fs[9]?).map (fun fd => (fd.offset, fd.type)) | _ => none) = some (9, 216) := by kernel_rfl
theorem fld219_10 : fldB Try.prog 219 10 10 = true := by kernel_rfl
theorem fd219_10 : (match Try.prog.underlying 219 with | some (.struct fs) => (fs[10]?).map (fun fd => (fd.offset, fd.type)) | _ => none) = some (10, 217) := by kernel_rfl
theorem pl219 : plB Try.prog 219 [(0, 1), (1, 1), (2, 1), (3, 1), (4, 1), (5, 1), (6, 1), (7, 1), (8, 1), (9, 1), (10, 1)] = true := by kernel_rfl
theorem sz221 : szB Try.prog 221 false 1 = true := by kernel_rfl
theorem by221 : byB Try.prog 221 8 = true := by kernel_rfl
theorem zr221 : zrB Try.prog 221 (.pointer none) := by unfold zrB; kernel_rfl
end Go.Proofs.Ytblbnagdhcpnoaa.Am
