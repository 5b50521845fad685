/- Closed facts of the program's types and functions. Conditions: none. -/
import Derived.Test.YtcdccdcbfbakfaaGreatDoorProg
import Derived.Test.YtcdccdcbfbakfaaGreatDoorAmD
import Derived.ChangeKeysEq
set_option linter.unusedVariables false
set_option linter.unusedSimpArgs false
namespace Go.Proofs.YtcdccdcbfbakfaaGreatDoor.Am
open Go
theorem mixed : Tryz.prog.follows .mixedOrders = true := by kernel_rfl
theorem xa {w0 : Cx} {st : St} {l : List Oper} {id : Nat} {draw : Bool} {R : Exit → St → Prop} (n : Nat) (hW : RegW Tryz.prog w0 st l n (l.take n) 0 (fun _ => .dead) st (fun st' => Aops Tryz.prog w0 l (l.drop n) R st')) (h : (regB l n st.n && decide (n ≤ l.length) && (!draw || tailOk l n)) = true := by kernel_rfl) : Awp Tryz.prog w0 (.region id l.toArray draw) R st := awp_region n mixed h hW
theorem en4 : enB Tryz.prog 4 = true := by kernel_rfl
theorem en5 : enB Tryz.prog 5 = true := by kernel_rfl
theorem en6 : enB Tryz.prog 6 = true := by kernel_rfl
theorem en7 : enB Tryz.prog 7 = true := by kernel_rfl
theorem en8 : enB Tryz.prog 8 = true := by kernel_rfl
theorem en9 : enB Tryz.prog 9 = true := by kernel_rfl
theorem en10 : enB Tryz.prog 10 = true := by kernel_rfl
theorem en11 : enB Tryz.prog 11 = true := by kernel_rfl
theorem en12 : enB Tryz.prog 12 = true := by kernel_rfl
theorem en13 : enB Tryz.prog 13 = true := by kernel_rfl
theorem en14 : enB Tryz.prog 14 = true := by kernel_rfl
theorem en15 : enB Tryz.prog 15 = true := by kernel_rfl
theorem en16 : enB Tryz.prog 16 = true := by kernel_rfl
theorem en17 : enB Tryz.prog 17 = true := by kernel_rfl
theorem en18 : enB Tryz.prog 18 = true := by kernel_rfl
theorem en19 : enB Tryz.prog 19 = true := by kernel_rfl
theorem en20 : enB Tryz.prog 20 = true := by kernel_rfl
theorem en21 : enB Tryz.prog 21 = true := by kernel_rfl
theorem en22 : enB Tryz.prog 22 = true := by kernel_rfl
theorem en23 : enB Tryz.prog 23 = true := by kernel_rfl
theorem en24 : enB Tryz.prog 24 = true := by kernel_rfl
theorem en25 : enB Tryz.prog 25 = true := by kernel_rfl
theorem en26 : enB Tryz.prog 26 = true := by kernel_rfl
theorem en27 : enB Tryz.prog 27 = true := by kernel_rfl
theorem en28 : enB Tryz.prog 28 = true := by kernel_rfl
theorem en29 : enB Tryz.prog 29 = true := by kernel_rfl
theorem en30 : enB Tryz.prog 30 = true := by kernel_rfl
theorem en31 : enB Tryz.prog 31 = true := by kernel_rfl
theorem en32 : enB Tryz.prog 32 = true := by kernel_rfl
theorem en33 : enB Tryz.prog 33 = true := by kernel_rfl
theorem en34 : enB Tryz.prog 34 = true := by kernel_rfl
theorem en35 : enB Tryz.prog 35 = true := by kernel_rfl
theorem en36 : enB Tryz.prog 36 = true := by kernel_rfl
theorem en37 : enB Tryz.prog 37 = true := by kernel_rfl
theorem en38 : enB Tryz.prog 38 = true := by kernel_rfl
theorem en39 : enB Tryz.prog 39 = true := by kernel_rfl
theorem en40 : enB Tryz.prog 40 = true := by kernel_rfl
theorem en41 : enB Tryz.prog 41 = true := by kernel_rfl
theorem en42 : enB Tryz.prog 42 = true := by kernel_rfl
theorem en43 : enB Tryz.prog 43 = true := by kernel_rfl
theorem en44 : enB Tryz.prog 44 = true := by kernel_rfl
theorem en46 : enB Tryz.prog 46 = true := by kernel_rfl
theorem en47 : enB Tryz.prog 47 = true := by kernel_rfl
theorem en48 : enB Tryz.prog 48 = true := by kernel_rfl
theorem en49 : enB Tryz.prog 49 = true := by kernel_rfl
theorem en50 : enB Tryz.prog 50 = true := by kernel_rfl
theorem en51 : enB Tryz.prog 51 = true := by kernel_rfl
theorem en52 : enB Tryz.prog 52 = true := by kernel_rfl
theorem en53 : enB Tryz.prog 53 = true := by kernel_rfl
theorem en54 : enB Tryz.prog 54 = true := by kernel_rfl
theorem en56 : enB Tryz.prog 56 = true := by kernel_rfl
theorem en57 : enB Tryz.prog 57 = true := by kernel_rfl
theorem en59 : enB Tryz.prog 59 = true := by kernel_rfl
theorem en60 : enB Tryz.prog 60 = true := by kernel_rfl
theorem en61 : enB Tryz.prog 61 = true := by kernel_rfl
theorem en62 : enB Tryz.prog 62 = true := by kernel_rfl
theorem en63 : enB Tryz.prog 63 = true := by kernel_rfl
theorem en64 : enB Tryz.prog 64 = true := by kernel_rfl
theorem en65 : enB Tryz.prog 65 = true := by kernel_rfl
theorem en66 : enB Tryz.prog 66 = true := by kernel_rfl
theorem en67 : enB Tryz.prog 67 = true := by kernel_rfl
theorem en68 : enB Tryz.prog 68 = true := by kernel_rfl
theorem en69 : enB Tryz.prog 69 = true := by kernel_rfl
theorem en70 : enB Tryz.prog 70 = true := by kernel_rfl
theorem en71 : enB Tryz.prog 71 = true := by kernel_rfl
theorem en83 : enB Tryz.prog 83 = true := by kernel_rfl
theorem en84 : enB Tryz.prog 84 = true := by kernel_rfl
theorem en85 : enB Tryz.prog 85 = true := by kernel_rfl
theorem en86 : enB Tryz.prog 86 = true := by kernel_rfl
theorem en87 : enB Tryz.prog 87 = true := by kernel_rfl
theorem en88 : enB Tryz.prog 88 = true := by kernel_rfl
theorem en89 : enB Tryz.prog 89 = true := by kernel_rfl
theorem en90 : enB Tryz.prog 90 = true := by kernel_rfl
theorem en91 : enB Tryz.prog 91 = true := by kernel_rfl
theorem en108 : enB Tryz.prog 108 = true := by kernel_rfl
theorem en109 : enB Tryz.prog 109 = true := by kernel_rfl
theorem en110 : enB Tryz.prog 110 = true := by kernel_rfl
theorem en111 : enB Tryz.prog 111 = true := by kernel_rfl
theorem en112 : enB Tryz.prog 112 = true := by kernel_rfl
theorem en113 : enB Tryz.prog 113 = true := by kernel_rfl
theorem en114 : enB Tryz.prog 114 = true := by kernel_rfl
theorem en115 : enB Tryz.prog 115 = true := by kernel_rfl
theorem en116 : enB Tryz.prog 116 = true := by kernel_rfl
theorem en117 : enB Tryz.prog 117 = true := by kernel_rfl
theorem en118 : enB Tryz.prog 118 = true := by kernel_rfl
theorem en119 : enB Tryz.prog 119 = true := by kernel_rfl
theorem en120 : enB Tryz.prog 120 = true := by kernel_rfl
theorem en121 : enB Tryz.prog 121 = true := by kernel_rfl
theorem en134 : enB Tryz.prog 134 = true := by kernel_rfl
theorem en135 : enB Tryz.prog 135 = true := by kernel_rfl
theorem en136 : enB Tryz.prog 136 = true := by kernel_rfl
theorem en137 : enB Tryz.prog 137 = true := by kernel_rfl
theorem en138 : enB Tryz.prog 138 = true := by kernel_rfl
theorem en139 : enB Tryz.prog 139 = true := by kernel_rfl
theorem en140 : enB Tryz.prog 140 = true := by kernel_rfl
theorem en141 : enB Tryz.prog 141 = true := by kernel_rfl
theorem en142 : enB Tryz.prog 142 = true := by kernel_rfl
theorem en143 : enB Tryz.prog 143 = true := by kernel_rfl
theorem en144 : enB Tryz.prog 144 = true := by kernel_rfl
theorem en145 : enB Tryz.prog 145 = true := by kernel_rfl
theorem en146 : enB Tryz.prog 146 = true := by kernel_rfl
theorem en147 : enB Tryz.prog 147 = true := by kernel_rfl
theorem en148 : enB Tryz.prog 148 = true := by kernel_rfl
theorem en149 : enB Tryz.prog 149 = true := by kernel_rfl
theorem en150 : enB Tryz.prog 150 = true := by kernel_rfl
theorem en151 : enB Tryz.prog 151 = true := by kernel_rfl
theorem en152 : enB Tryz.prog 152 = true := by kernel_rfl
theorem en153 : enB Tryz.prog 153 = true := by kernel_rfl
theorem en161 : enB Tryz.prog 161 = true := by kernel_rfl
theorem en162 : enB Tryz.prog 162 = true := by kernel_rfl
theorem en163 : enB Tryz.prog 163 = true := by kernel_rfl
theorem en164 : enB Tryz.prog 164 = true := by kernel_rfl
theorem en165 : enB Tryz.prog 165 = true := by kernel_rfl
theorem en166 : enB Tryz.prog 166 = true := by kernel_rfl
theorem en167 : enB Tryz.prog 167 = true := by kernel_rfl
theorem en168 : enB Tryz.prog 168 = true := by kernel_rfl
theorem en169 : enB Tryz.prog 169 = true := by kernel_rfl
theorem en170 : enB Tryz.prog 170 = true := by kernel_rfl
theorem en171 : enB Tryz.prog 171 = true := by kernel_rfl
theorem en172 : enB Tryz.prog 172 = true := by kernel_rfl
theorem en175 : enB Tryz.prog 175 = true := by kernel_rfl
theorem en176 : enB Tryz.prog 176 = true := by kernel_rfl
theorem en177 : enB Tryz.prog 177 = true := by kernel_rfl
theorem en178 : enB Tryz.prog 178 = true := by kernel_rfl
theorem en179 : enB Tryz.prog 179 = true := by kernel_rfl
theorem en180 : enB Tryz.prog 180 = true := by kernel_rfl
theorem en181 : enB Tryz.prog 181 = true := by kernel_rfl
theorem en182 : enB Tryz.prog 182 = true := by kernel_rfl
theorem sz3 : szB Tryz.prog 3 false 1 = true := by kernel_rfl
theorem by3 : byB Tryz.prog 3 8 = true := by kernel_rfl
theorem zr3 : zrB Tryz.prog 3 (.int .i64 0) := by unfold zrB; kernel_rfl
theorem int3 : intB Tryz.prog 3 .i64 = true := by kernel_rfl
theorem sz4 : szB Tryz.prog 4 false 1 = true := by kernel_rfl
theorem zr4 : zrB Tryz.prog 4 (.bool false) := by unfold zrB; kernel_rfl
theorem zr5 : zrB Tryz.prog 5 (.int .u8 0) := by unfold zrB; kernel_rfl
theorem int5 : intB Tryz.prog 5 .u8 = true := by kernel_rfl
theorem sz9 : szB Tryz.prog 9 false 1 = true := by kernel_rfl
theorem by9 : byB Tryz.prog 9 16 = true := by kernel_rfl
theorem zr9 : zrB Tryz.prog 9 (.string ⟨#[]⟩) := by unfold zrB; kernel_rfl
theorem str9 : isStr Tryz.prog 9 = true := by kernel_rfl
theorem sz23 : szB Tryz.prog 23 true 2 = true := by kernel_rfl
theorem zr23 : zrB Tryz.prog 23 (.agg #[.int .i64 0, .int .i64 0]) := by unfold zrB; kernel_rfl
theorem fld23_0 : fldB Tryz.prog 23 0 0 = true := by kernel_rfl
theorem fld23_1 : fldB Tryz.prog 23 1 1 = true := by kernel_rfl
theorem fd23_1 : (match Tryz.prog.underlying 23 with | some (.struct fs) => (fs[1]?).map (fun fd => (fd.offset, fd.type)) | _ => none) = some (1, 3) := by kernel_rfl
theorem pl23 : plB Tryz.prog 23 [(0, 1), (1, 1)] = true := by kernel_rfl
theorem sz25 : szB Tryz.prog 25 true 5 = true := by kernel_rfl
theorem zr25 : zrB Tryz.prog 25 (.agg #[.int .i64 0, .int .i64 0, .int .i64 0, .int .i64 0, .int .i64 0]) := by unfold zrB; kernel_rfl
theorem fld25_0 : fldB Tryz.prog 25 0 0 = true := by kernel_rfl
theorem fld25_1 : fldB Tryz.prog 25 1 2 = true := by kernel_rfl
theorem fld25_2 : fldB Tryz.prog 25 2 3 = true := by kernel_rfl
theorem fld25_3 : fldB Tryz.prog 25 3 4 = true := by kernel_rfl
theorem pl25 : plB Tryz.prog 25 [(0, 2), (2, 1), (3, 1), (4, 1)] = true := by kernel_rfl
theorem sz26 : szB Tryz.prog 26 false 1 = true := by kernel_rfl
theorem zr26 : zrB Tryz.prog 26 (.slice none 0 0) := by unfold zrB; kernel_rfl
theorem sl26 : slB Tryz.prog 26 3 1 = true := by kernel_rfl
theorem isl26 : isSl Tryz.prog 26 = true := by kernel_rfl
theorem sz29 : szB Tryz.prog 29 false 1 = true := by kernel_rfl
theorem zr29 : zrB Tryz.prog 29 (.int .i64 0) := by unfold zrB; kernel_rfl
theorem sz44 : szB Tryz.prog 44 false 1 = true := by kernel_rfl
theorem sl44 : slB Tryz.prog 44 23 2 = true := by kernel_rfl
theorem isl44 : isSl Tryz.prog 44 = true := by kernel_rfl
theorem sz46 : szB Tryz.prog 46 true 4 = true := by kernel_rfl
theorem zr46 : zrB Tryz.prog 46 (.agg #[.int .i64 0, .int .i64 0, .int .i64 0, .int .i64 0]) := by unfold zrB; kernel_rfl
theorem fld46_0 : fldB Tryz.prog 46 0 0 = true := by kernel_rfl
theorem fld46_1 : fldB Tryz.prog 46 1 1 = true := by kernel_rfl
theorem fld46_2 : fldB Tryz.prog 46 2 2 = true := by kernel_rfl
theorem fld46_3 : fldB Tryz.prog 46 3 3 = true := by kernel_rfl
theorem pl46 : plB Tryz.prog 46 [(0, 1), (1, 1), (2, 1), (3, 1)] = true := by kernel_rfl
theorem sz48 : szB Tryz.prog 48 true 2 = true := by kernel_rfl
theorem zr48 : zrB Tryz.prog 48 (.agg #[.int .i64 0, .int .i64 0]) := by unfold zrB; kernel_rfl
theorem fld48_0 : fldB Tryz.prog 48 0 0 = true := by kernel_rfl
theorem fld48_1 : fldB Tryz.prog 48 1 1 = true := by kernel_rfl
theorem pl48 : plB Tryz.prog 48 [(0, 1), (1, 1)] = true := by kernel_rfl
theorem sz50 : szB Tryz.prog 50 true 11 = true := by kernel_rfl
theorem zr50 : zrB Tryz.prog 50 (.agg #[.slice none 0 0, .int .i64 0, .int .i64 0, .int .i64 0, .int .i64 0, .int .i64 0, .int .i64 0, .int .i64 0, .int .i64 0, .int .i64 0, .int .i64 0]) := by unfold zrB; kernel_rfl
theorem fld50_0 : fldB Tryz.prog 50 0 0 = true := by kernel_rfl
theorem fld50_1 : fldB Tryz.prog 50 1 1 = true := by kernel_rfl
theorem fld50_2 : fldB Tryz.prog 50 2 5 = true := by kernel_rfl
theorem fld50_3 : fldB Tryz.prog 50 3 9 = true := by kernel_rfl
theorem pl50 : plB Tryz.prog 50 [(0, 1), (1, 4), (5, 4), (9, 2)] = true := by kernel_rfl
theorem sz51 : szB Tryz.prog 51 false 1 = true := by kernel_rfl
theorem sl51 : slB Tryz.prog 51 99 1 = true := by kernel_rfl
theorem isl51 : isSl Tryz.prog 51 = true := by kernel_rfl
theorem sz53 : szB Tryz.prog 53 true 2 = true := by kernel_rfl
theorem zr53 : zrB Tryz.prog 53 (.agg #[.int .i64 0, .slice none 0 0]) := by unfold zrB; kernel_rfl
theorem fld53_0 : fldB Tryz.prog 53 0 0 = true := by kernel_rfl
theorem fld53_1 : fldB Tryz.prog 53 1 1 = true := by kernel_rfl
theorem pl53 : plB Tryz.prog 53 [(0, 1), (1, 1)] = true := by kernel_rfl
theorem sz55 : szB Tryz.prog 55 true 18 = true := by kernel_rfl
theorem zr55 : zrB Tryz.prog 55 (.agg #[.slice none 0 0, .int .i64 0, .int .i64 0, .int .i64 0, .int .i64 0, .int .i64 0, .int .i64 0, .int .i64 0, .int .i64 0, .int .i64 0, .int .i64 0, .int .i64 0, .slice none 0 0, .int .i64 0, .int .i64 0, .int .i64 0, .int .i64 0, .int .i64 0]) := by unfold zrB; kernel_rfl
theorem fld55_0 : fldB Tryz.prog 55 0 0 = true := by kernel_rfl
theorem fld55_1 : fldB Tryz.prog 55 1 11 = true := by kernel_rfl
theorem fld55_2 : fldB Tryz.prog 55 2 13 = true := by kernel_rfl
theorem pl55 : plB Tryz.prog 55 [(0, 11), (11, 2), (13, 5)] = true := by kernel_rfl
theorem sz58 : szB Tryz.prog 58 true 2 = true := by kernel_rfl
theorem zr58 : zrB Tryz.prog 58 (.agg #[.int .i64 0, .int .i64 0]) := by unfold zrB; kernel_rfl
theorem fld58_0 : fldB Tryz.prog 58 0 0 = true := by kernel_rfl
theorem fld58_1 : fldB Tryz.prog 58 1 1 = true := by kernel_rfl
theorem pl58 : plB Tryz.prog 58 [(0, 1), (1, 1)] = true := by kernel_rfl
theorem eqi58 : EqI Tryz.prog 58 2 := by
  intro xs ys hx hy w
  match xs, ys, hx, hy with
  | [a0, a1], [b0, b1], _, _ =>
    refine ⟨fun x y => run_eqGuard_agg w .eql 58 x y _ _ (by kernel_rfl), fun x y => run_eqGuard_agg w .neq 58 x y _ _ (by kernel_rfl), ?_⟩
    have hf : (Tryz.prog.fieldsOf 58).toList = [⟨ "Lo", 3, 0, false, "", "", 0⟩, ⟨ "Hi", 3, 1, false, "", "", 8⟩] := by kernel_rfl
    rw [show (10000 : Nat) = 9998 + 1 + 1 from rfl, run_equalIn_struct w (9998 + 1) 58 _ _ (by kernel_rfl) (by kernel_rfl), hf]
    have u3 := Tryz.underlying3; 
    simp [Op.eqFields, part, isAgg, run_underlying u3, iW, run_equalIn_int, u3, Result.andThen]
    (repeat' split) <;> simp_all
theorem sz59 : szB Tryz.prog 59 true 4 = true := by kernel_rfl
theorem zr59 : zrB Tryz.prog 59 (.agg #[.int .i64 0, .int .i64 0, .int .i64 0, .int .i64 0]) := by unfold zrB; kernel_rfl
theorem ar59 : arB Tryz.prog 59 2 58 2 = true := by kernel_rfl
theorem sl66 : slB Tryz.prog 66 26 1 = true := by kernel_rfl
theorem isl66 : isSl Tryz.prog 66 = true := by kernel_rfl
theorem sz70 : szB Tryz.prog 70 true 5 = true := by kernel_rfl
theorem zr70 : zrB Tryz.prog 70 (.agg #[.int .i64 0, .int .i64 0, .int .i64 0, .int .i64 0, .int .i64 0]) := by unfold zrB; kernel_rfl
theorem fld70_0 : fldB Tryz.prog 70 0 0 = true := by kernel_rfl
theorem pl70 : plB Tryz.prog 70 [(0, 5)] = true := by kernel_rfl
theorem sz72 : szB Tryz.prog 72 true 6 = true := by kernel_rfl
theorem zr72 : zrB Tryz.prog 72 (.agg #[.int .i64 0, .int .i64 0, .int .i64 0, .int .i64 0, .int .i64 0, .slice none 0 0]) := by unfold zrB; kernel_rfl
theorem fld72_0 : fldB Tryz.prog 72 0 0 = true := by kernel_rfl
theorem fld72_1 : fldB Tryz.prog 72 1 5 = true := by kernel_rfl
theorem pl72 : plB Tryz.prog 72 [(0, 5), (5, 1)] = true := by kernel_rfl
theorem sl86 : slB Tryz.prog 86 9 1 = true := by kernel_rfl
theorem isl86 : isSl Tryz.prog 86 = true := by kernel_rfl
theorem sz90 : szB Tryz.prog 90 false 1 = true := by kernel_rfl
theorem zr90 : zrB Tryz.prog 90 (.pointer none) := by unfold zrB; kernel_rfl
theorem sz94 : szB Tryz.prog 94 true 2 = true := by kernel_rfl
theorem zr94 : zrB Tryz.prog 94 (.agg #[.int .i64 0, .int .i64 0]) := by unfold zrB; kernel_rfl
theorem fld94_0 : fldB Tryz.prog 94 0 0 = true := by kernel_rfl
theorem fld94_1 : fldB Tryz.prog 94 1 1 = true := by kernel_rfl
theorem pl94 : plB Tryz.prog 94 [(0, 1), (1, 1)] = true := by kernel_rfl
theorem sz99 : szB Tryz.prog 99 false 1 = true := by kernel_rfl
theorem by99 : byB Tryz.prog 99 4 = true := by kernel_rfl
theorem zr99 : zrB Tryz.prog 99 (.float .f32 0) := by unfold zrB; kernel_rfl
theorem flt99 : fltB Tryz.prog 99 .f32 = true := by kernel_rfl
theorem sl100 : slB Tryz.prog 100 144 8 = true := by kernel_rfl
theorem sz102 : szB Tryz.prog 102 true 13 = true := by kernel_rfl
theorem zr102 : zrB Tryz.prog 102 (.agg #[.slice none 0 0, .int .i64 0, .int .i64 0, .int .i64 0, .int .i64 0, .int .i64 0, .int .i64 0, .int .i64 0, .int .i64 0, .int .i64 0, .int .i64 0, .slice none 0 0, .slice none 0 0]) := by unfold zrB; kernel_rfl
theorem fd102_0 : (match Tryz.prog.underlying 102 with | some (.struct fs) => (fs[0]?).map (fun fd => (fd.offset, fd.type)) | _ => none) = some (0, 50) := by kernel_rfl
theorem pl102 : plB Tryz.prog 102 [(0, 11), (11, 1), (12, 1)] = true := by kernel_rfl
theorem sz106 : szB Tryz.prog 106 true 2 = true := by kernel_rfl
theorem zr106 : zrB Tryz.prog 106 (.agg #[.int .i64 0, .int .i64 0]) := by unfold zrB; kernel_rfl
theorem ar106 : arB Tryz.prog 106 2 3 1 = true := by kernel_rfl
theorem sz111 : szB Tryz.prog 111 false 1 = true := by kernel_rfl
theorem sz117 : szB Tryz.prog 117 false 1 = true := by kernel_rfl
theorem int117 : intB Tryz.prog 117 .u64 = true := by kernel_rfl
theorem flt119 : fltB Tryz.prog 119 .f64 = true := by kernel_rfl
theorem sz140 : szB Tryz.prog 140 false 1 = true := by kernel_rfl
theorem sl140 : slB Tryz.prog 140 147 61 = true := by kernel_rfl
theorem zr142 : zrB Tryz.prog 142 (.agg #[.int .i64 0, .int .i64 0, .int .i64 0, .int .i64 0, .int .i64 0, .slice none 0 0, .int .i64 0, .int .i64 0, .int .i64 0, .int .i64 0, .int .i64 0, .int .i64 0, .int .i64 0, .int .i64 0, .int .i64 0, .int .i64 0, .int .i64 0, .slice none 0 0]) := by unfold zrB; kernel_rfl
theorem fld142_0 : fldB Tryz.prog 142 0 0 = true := by kernel_rfl
theorem fld142_1 : fldB Tryz.prog 142 1 5 = true := by kernel_rfl
theorem fld142_2 : fldB Tryz.prog 142 2 16 = true := by kernel_rfl
theorem fld142_3 : fldB Tryz.prog 142 3 17 = true := by kernel_rfl
theorem pl142 : plB Tryz.prog 142 [(0, 5), (5, 11), (16, 1), (17, 1)] = true := by kernel_rfl
theorem zr144 : zrB Tryz.prog 144 (.agg #[.int .i64 0, .int .i64 0, .int .i64 0, .int .i64 0, .int .i64 0, .int .i64 0, .int .i64 0, .int .i64 0]) := by unfold zrB; kernel_rfl
theorem pl144 : plB Tryz.prog 144 [(0, 1), (1, 2), (3, 2), (5, 1), (6, 1), (7, 1)] = true := by kernel_rfl
theorem sz146 : szB Tryz.prog 146 true 61 = true := by kernel_rfl
theorem zr146 : zrB Tryz.prog 146 (.agg #[.complex .f32 0 0, .complex .f32 0 0, .complex .f32 0 0, .complex .f32 0 0, .complex .f32 0 0, .complex .f32 0 0, .complex .f32 0 0, .complex .f32 0 0, .complex .f32 0 0, .complex .f32 0 0, .complex .f32 0 0, .complex .f32 0 0, .complex .f32 0 0, .complex .f32 0 0, .complex .f32 0 0, .complex .f32 0 0, .complex .f32 0 0, .complex .f32 0 0, .complex .f32 0 0, .complex .f32 0 0, .complex .f32 0 0, .complex .f32 0 0, .complex .f32 0 0, .complex .f32 0 0, .complex .f32 0 0, .complex .f32 0 0, .complex .f32 0 0, .complex .f32 0 0, .complex .f32 0 0, .complex .f32 0 0, .complex .f32 0 0, .complex .f32 0 0, .complex .f32 0 0, .complex .f32 0 0, .complex .f32 0 0, .complex .f32 0 0, .complex .f32 0 0, .complex .f32 0 0, .complex .f32 0 0, .complex .f32 0 0, .complex .f32 0 0, .complex .f32 0 0, .complex .f32 0 0, .complex .f32 0 0, .complex .f32 0 0, .complex .f32 0 0, .complex .f32 0 0, .complex .f32 0 0, .complex .f32 0 0, .complex .f32 0 0, .complex .f32 0 0, .complex .f32 0 0, .complex .f32 0 0, .complex .f32 0 0, .complex .f32 0 0, .complex .f32 0 0, .complex .f32 0 0, .complex .f32 0 0, .complex .f32 0 0, .complex .f32 0 0, .complex .f32 0 0]) := by unfold zrB; kernel_rfl
theorem ar146 : arB Tryz.prog 146 61 111 1 = true := by kernel_rfl
theorem by147 : byB Tryz.prog 147 488 = true := by kernel_rfl
theorem zr147 : zrB Tryz.prog 147 (.agg #[.complex .f32 0 0, .complex .f32 0 0, .complex .f32 0 0, .complex .f32 0 0, .complex .f32 0 0, .complex .f32 0 0, .complex .f32 0 0, .complex .f32 0 0, .complex .f32 0 0, .complex .f32 0 0, .complex .f32 0 0, .complex .f32 0 0, .complex .f32 0 0, .complex .f32 0 0, .complex .f32 0 0, .complex .f32 0 0, .complex .f32 0 0, .complex .f32 0 0, .complex .f32 0 0, .complex .f32 0 0, .complex .f32 0 0, .complex .f32 0 0, .complex .f32 0 0, .complex .f32 0 0, .complex .f32 0 0, .complex .f32 0 0, .complex .f32 0 0, .complex .f32 0 0, .complex .f32 0 0, .complex .f32 0 0, .complex .f32 0 0, .complex .f32 0 0, .complex .f32 0 0, .complex .f32 0 0, .complex .f32 0 0, .complex .f32 0 0, .complex .f32 0 0, .complex .f32 0 0, .complex .f32 0 0, .complex .f32 0 0, .complex .f32 0 0, .complex .f32 0 0, .complex .f32 0 0, .complex .f32 0 0, .complex .f32 0 0, .complex .f32 0 0, .complex .f32 0 0, .complex .f32 0 0, .complex .f32 0 0, .complex .f32 0 0, .complex .f32 0 0, .complex .f32 0 0, .complex .f32 0 0, .complex .f32 0 0, .complex .f32 0 0, .complex .f32 0 0, .complex .f32 0 0, .complex .f32 0 0, .complex .f32 0 0, .complex .f32 0 0, .complex .f32 0 0]) := by unfold zrB; kernel_rfl
theorem ar147 : arB Tryz.prog 147 61 111 1 = true := by kernel_rfl
theorem sl157 : slB Tryz.prog 157 5 1 = true := by kernel_rfl
theorem sz171 : szB Tryz.prog 171 true 11 = true := by kernel_rfl
theorem zr171 : zrB Tryz.prog 171 (.agg #[.slice none 0 0, .int .i64 0, .int .i64 0, .int .i64 0, .int .i64 0, .int .i64 0, .int .i64 0, .int .i64 0, .int .i64 0, .int .i64 0, .int .i64 0]) := by unfold zrB; kernel_rfl
theorem fld171_0 : fldB Tryz.prog 171 0 0 = true := by kernel_rfl
theorem pl171 : plB Tryz.prog 171 [(0, 11)] = true := by kernel_rfl
theorem zr176 : zrB Tryz.prog 176 (.agg #[.int .i64 0, .int .i64 0, .int .i64 0, .int .i64 0, .int .i64 0, .int .i64 0, .int .i64 0, .int .i64 0, .int .i64 0, .int .i64 0, .int .i64 0, .int .i64 0, .int .i64 0, .int .i64 0]) := by unfold zrB; kernel_rfl
theorem fld176_0 : fldB Tryz.prog 176 0 0 = true := by kernel_rfl
theorem fld176_1 : fldB Tryz.prog 176 1 4 = true := by kernel_rfl
theorem fld176_2 : fldB Tryz.prog 176 2 8 = true := by kernel_rfl
theorem fld176_3 : fldB Tryz.prog 176 3 10 = true := by kernel_rfl
theorem fld176_4 : fldB Tryz.prog 176 4 12 = true := by kernel_rfl
theorem pl176 : plB Tryz.prog 176 [(0, 4), (4, 4), (8, 2), (10, 2), (12, 2)] = true := by kernel_rfl
theorem int180 : intB Tryz.prog 180 .u64 = true := by kernel_rfl
theorem sz198 : szB Tryz.prog 198 true 64 = true := by kernel_rfl
theorem ar198 : arB Tryz.prog 198 64 99 1 = true := by kernel_rfl
theorem sl199 : slB Tryz.prog 199 29 1 = true := by kernel_rfl
theorem isl199 : isSl Tryz.prog 199 = true := by kernel_rfl
theorem zr207 : zrB Tryz.prog 207 (.agg #[.int .i64 0, .int .i64 0, .int .i64 0, .int .i64 0, .int .i64 0, .int .i64 0]) := by unfold zrB; kernel_rfl
theorem fld207_0 : fldB Tryz.prog 207 0 0 = true := by kernel_rfl
theorem fld207_1 : fldB Tryz.prog 207 1 1 = true := by kernel_rfl
theorem fld207_2 : fldB Tryz.prog 207 2 2 = true := by kernel_rfl
theorem fld207_3 : fldB Tryz.prog 207 3 3 = true := by kernel_rfl
theorem fld207_4 : fldB Tryz.prog 207 4 4 = true := by kernel_rfl
theorem fld207_5 : fldB Tryz.prog 207 5 5 = true := by kernel_rfl
theorem pl207 : plB Tryz.prog 207 [(0, 1), (1, 1), (2, 1), (3, 1), (4, 1), (5, 1)] = true := by kernel_rfl
theorem sz209 : szB Tryz.prog 209 true 6 = true := by kernel_rfl
theorem zr209 : zrB Tryz.prog 209 (.agg #[.int .i64 0, .int .i64 0, .int .i64 0, .int .i64 0, .int .i64 0, .int .i64 0]) := by unfold zrB; kernel_rfl
theorem fld209_0 : fldB Tryz.prog 209 0 0 = true := by kernel_rfl
theorem pl209 : plB Tryz.prog 209 [(0, 6)] = true := by kernel_rfl
theorem sz235 : szB Tryz.prog 235 true 64 = true := by kernel_rfl
theorem zr235 : zrB Tryz.prog 235 (.agg #[.int .i64 0, .int .i64 0, .int .i64 0, .int .i64 0, .int .i64 0, .int .i64 0, .int .i64 0, .int .i64 0, .int .i64 0, .int .i64 0, .int .i64 0, .int .i64 0, .int .i64 0, .int .i64 0, .int .i64 0, .int .i64 0, .int .i64 0, .int .i64 0, .int .i64 0, .int .i64 0, .int .i64 0, .int .i64 0, .int .i64 0, .int .i64 0, .int .i64 0, .int .i64 0, .int .i64 0, .int .i64 0, .int .i64 0, .int .i64 0, .int .i64 0, .int .i64 0, .int .i64 0, .int .i64 0, .int .i64 0, .int .i64 0, .int .i64 0, .int .i64 0, .int .i64 0, .int .i64 0, .int .i64 0, .int .i64 0, .int .i64 0, .int .i64 0, .int .i64 0, .int .i64 0, .int .i64 0, .int .i64 0, .int .i64 0, .int .i64 0, .int .i64 0, .int .i64 0, .int .i64 0, .int .i64 0, .int .i64 0, .int .i64 0, .int .i64 0, .int .i64 0, .int .i64 0, .int .i64 0, .int .i64 0, .int .i64 0, .int .i64 0, .int .i64 0]) := by unfold zrB; kernel_rfl
theorem ar235 : arB Tryz.prog 235 64 3 1 = true := by kernel_rfl
theorem sz261 : szB Tryz.prog 261 true 4 = true := by kernel_rfl
theorem zr261 : zrB Tryz.prog 261 (.agg #[.int .i64 0, .int .i64 0, .int .i64 0, .int .i64 0]) := by unfold zrB; kernel_rfl
theorem ar261 : arB Tryz.prog 261 4 3 1 = true := by kernel_rfl
theorem sz269 : szB Tryz.prog 269 true 2 = true := by kernel_rfl
theorem zr269 : zrB Tryz.prog 269 (.agg #[.int .u64 0, .int .u64 0]) := by unfold zrB; kernel_rfl
theorem fld269_0 : fldB Tryz.prog 269 0 0 = true := by kernel_rfl
theorem fld269_1 : fldB Tryz.prog 269 1 1 = true := by kernel_rfl
theorem pl269 : plB Tryz.prog 269 [(0, 1), (1, 1)] = true := by kernel_rfl
theorem eqk269 : EqK Tryz.prog .u64 269 2 := by
  intro xs ys hx hy w
  match xs, ys, hx, hy with
  | [a0, a1], [b0, b1], _, _ =>
    refine ⟨fun x y => run_eqGuard_agg w .eql 269 x y _ _ (by kernel_rfl), fun x y => run_eqGuard_agg w .neq 269 x y _ _ (by kernel_rfl), ?_⟩
    have hf : (Tryz.prog.fieldsOf 269).toList = [⟨ "high", 117, 0, false, "", "couplant/ray", 0⟩, ⟨ "low", 117, 1, false, "", "couplant/ray", 8⟩] := by kernel_rfl
    rw [show (10000 : Nat) = 9998 + 1 + 1 from rfl, run_equalIn_struct w (9998 + 1) 269 _ _ (by kernel_rfl) (by kernel_rfl), hf]
    have u117 := Tryz.underlying117; 
    simp [Op.eqFields, part, isAgg, run_underlying u117, kW, run_equalIn_int, u117, Result.andThen]
    (repeat' split) <;> simp_all
end Go.Proofs.YtcdccdcbfbakfaaGreatDoor.Am
