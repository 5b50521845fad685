/- Closed facts of the program's types and functions. Conditions: none. -/
import Derived.Test.YtkbdnkjjklbddaaGreatDoorProg
import Derived.Test.YtkbdnkjjklbddaaGreatDoorAmD
import Derived.ChangeKeysEq
set_option linter.unusedVariables false
set_option linter.unusedSimpArgs false
namespace Go.Proofs.YtkbdnkjjklbddaaGreatDoor.Am
open Go
theorem mixed : Tryz.prog.follows .mixedOrders = true := by kernel_rfl
theorem xa {w0 : Cx} {st : St} {l : List Oper} {id : Nat} {draw : Bool} {R : Exit → St → Prop} (n : Nat) (hW : RegW Tryz.prog w0 st l n (l.take n) 0 (fun _ => .dead) st (fun st' => Aops Tryz.prog w0 l (l.drop n) R st')) (h : (regB l n st.n && decide (n ≤ l.length) && (!draw || tailOk l n)) = true := by kernel_rfl) : Awp Tryz.prog w0 (.region id l.toArray draw) R st := awp_region n mixed h hW
theorem en4 : enB Tryz.prog 4 = true := by kernel_rfl
theorem en5 : enB Tryz.prog 5 = true := by kernel_rfl
theorem en6 : enB Tryz.prog 6 = true := by kernel_rfl
theorem en7 : enB Tryz.prog 7 = true := by kernel_rfl
theorem en8 : enB Tryz.prog 8 = true := by kernel_rfl
theorem en9 : enB Tryz.prog 9 = true := by kernel_rfl
theorem en10 : enB Tryz.prog 10 = true := by kernel_rfl
theorem en11 : enB Tryz.prog 11 = true := by kernel_rfl
theorem en12 : enB Tryz.prog 12 = true := by kernel_rfl
theorem en13 : enB Tryz.prog 13 = true := by kernel_rfl
theorem en14 : enB Tryz.prog 14 = true := by kernel_rfl
theorem en15 : enB Tryz.prog 15 = true := by kernel_rfl
theorem en16 : enB Tryz.prog 16 = true := by kernel_rfl
theorem en17 : enB Tryz.prog 17 = true := by kernel_rfl
theorem en18 : enB Tryz.prog 18 = true := by kernel_rfl
theorem en19 : enB Tryz.prog 19 = true := by kernel_rfl
theorem en20 : enB Tryz.prog 20 = true := by kernel_rfl
theorem en21 : enB Tryz.prog 21 = true := by kernel_rfl
theorem en22 : enB Tryz.prog 22 = true := by kernel_rfl
theorem en23 : enB Tryz.prog 23 = true := by kernel_rfl
theorem en24 : enB Tryz.prog 24 = true := by kernel_rfl
theorem en25 : enB Tryz.prog 25 = true := by kernel_rfl
theorem en26 : enB Tryz.prog 26 = true := by kernel_rfl
theorem en27 : enB Tryz.prog 27 = true := by kernel_rfl
theorem en28 : enB Tryz.prog 28 = true := by kernel_rfl
theorem en29 : enB Tryz.prog 29 = true := by kernel_rfl
theorem en30 : enB Tryz.prog 30 = true := by kernel_rfl
theorem en31 : enB Tryz.prog 31 = true := by kernel_rfl
theorem en32 : enB Tryz.prog 32 = true := by kernel_rfl
theorem en33 : enB Tryz.prog 33 = true := by kernel_rfl
theorem en34 : enB Tryz.prog 34 = true := by kernel_rfl
theorem en35 : enB Tryz.prog 35 = true := by kernel_rfl
theorem en36 : enB Tryz.prog 36 = true := by kernel_rfl
theorem en37 : enB Tryz.prog 37 = true := by kernel_rfl
theorem en38 : enB Tryz.prog 38 = true := by kernel_rfl
theorem en39 : enB Tryz.prog 39 = true := by kernel_rfl
theorem en40 : enB Tryz.prog 40 = true := by kernel_rfl
theorem en41 : enB Tryz.prog 41 = true := by kernel_rfl
theorem en42 : enB Tryz.prog 42 = true := by kernel_rfl
theorem en43 : enB Tryz.prog 43 = true := by kernel_rfl
theorem en44 : enB Tryz.prog 44 = true := by kernel_rfl
theorem en45 : enB Tryz.prog 45 = true := by kernel_rfl
theorem en46 : enB Tryz.prog 46 = true := by kernel_rfl
theorem en47 : enB Tryz.prog 47 = true := by kernel_rfl
theorem en48 : enB Tryz.prog 48 = true := by kernel_rfl
theorem en49 : enB Tryz.prog 49 = true := by kernel_rfl
theorem en50 : enB Tryz.prog 50 = true := by kernel_rfl
theorem en51 : enB Tryz.prog 51 = true := by kernel_rfl
theorem en52 : enB Tryz.prog 52 = true := by kernel_rfl
theorem en53 : enB Tryz.prog 53 = true := by kernel_rfl
theorem en54 : enB Tryz.prog 54 = true := by kernel_rfl
theorem en55 : enB Tryz.prog 55 = true := by kernel_rfl
theorem en56 : enB Tryz.prog 56 = true := by kernel_rfl
theorem en57 : enB Tryz.prog 57 = true := by kernel_rfl
theorem en58 : enB Tryz.prog 58 = true := by kernel_rfl
theorem en59 : enB Tryz.prog 59 = true := by kernel_rfl
theorem en60 : enB Tryz.prog 60 = true := by kernel_rfl
theorem en61 : enB Tryz.prog 61 = true := by kernel_rfl
theorem en62 : enB Tryz.prog 62 = true := by kernel_rfl
theorem en63 : enB Tryz.prog 63 = true := by kernel_rfl
theorem en64 : enB Tryz.prog 64 = true := by kernel_rfl
theorem en65 : enB Tryz.prog 65 = true := by kernel_rfl
theorem en70 : enB Tryz.prog 70 = true := by kernel_rfl
theorem en71 : enB Tryz.prog 71 = true := by kernel_rfl
theorem en72 : enB Tryz.prog 72 = true := by kernel_rfl
theorem en73 : enB Tryz.prog 73 = true := by kernel_rfl
theorem en74 : enB Tryz.prog 74 = true := by kernel_rfl
theorem en75 : enB Tryz.prog 75 = true := by kernel_rfl
theorem en76 : enB Tryz.prog 76 = true := by kernel_rfl
theorem en77 : enB Tryz.prog 77 = true := by kernel_rfl
theorem en78 : enB Tryz.prog 78 = true := by kernel_rfl
theorem en79 : enB Tryz.prog 79 = true := by kernel_rfl
theorem en80 : enB Tryz.prog 80 = true := by kernel_rfl
theorem en81 : enB Tryz.prog 81 = true := by kernel_rfl
theorem en82 : enB Tryz.prog 82 = true := by kernel_rfl
theorem en83 : enB Tryz.prog 83 = true := by kernel_rfl
theorem en84 : enB Tryz.prog 84 = true := by kernel_rfl
theorem en85 : enB Tryz.prog 85 = true := by kernel_rfl
theorem en86 : enB Tryz.prog 86 = true := by kernel_rfl
theorem en87 : enB Tryz.prog 87 = true := by kernel_rfl
theorem en88 : enB Tryz.prog 88 = true := by kernel_rfl
theorem en89 : enB Tryz.prog 89 = true := by kernel_rfl
theorem en90 : enB Tryz.prog 90 = true := by kernel_rfl
theorem en92 : enB Tryz.prog 92 = true := by kernel_rfl
theorem en93 : enB Tryz.prog 93 = true := by kernel_rfl
theorem en94 : enB Tryz.prog 94 = true := by kernel_rfl
theorem en95 : enB Tryz.prog 95 = true := by kernel_rfl
theorem en96 : enB Tryz.prog 96 = true := by kernel_rfl
theorem en97 : enB Tryz.prog 97 = true := by kernel_rfl
theorem en101 : enB Tryz.prog 101 = true := by kernel_rfl
theorem en102 : enB Tryz.prog 102 = true := by kernel_rfl
theorem en103 : enB Tryz.prog 103 = true := by kernel_rfl
theorem en104 : enB Tryz.prog 104 = true := by kernel_rfl
theorem en105 : enB Tryz.prog 105 = true := by kernel_rfl
theorem en106 : enB Tryz.prog 106 = true := by kernel_rfl
theorem en107 : enB Tryz.prog 107 = true := by kernel_rfl
theorem en108 : enB Tryz.prog 108 = true := by kernel_rfl
theorem en109 : enB Tryz.prog 109 = true := by kernel_rfl
theorem en110 : enB Tryz.prog 110 = true := by kernel_rfl
theorem en111 : enB Tryz.prog 111 = true := by kernel_rfl
theorem en112 : enB Tryz.prog 112 = true := by kernel_rfl
theorem en113 : enB Tryz.prog 113 = true := by kernel_rfl
theorem en114 : enB Tryz.prog 114 = true := by kernel_rfl
theorem en115 : enB Tryz.prog 115 = true := by kernel_rfl
theorem en116 : enB Tryz.prog 116 = true := by kernel_rfl
theorem en117 : enB Tryz.prog 117 = true := by kernel_rfl
theorem en124 : enB Tryz.prog 124 = true := by kernel_rfl
theorem en125 : enB Tryz.prog 125 = true := by kernel_rfl
theorem en126 : enB Tryz.prog 126 = true := by kernel_rfl
theorem en131 : enB Tryz.prog 131 = true := by kernel_rfl
theorem en132 : enB Tryz.prog 132 = true := by kernel_rfl
theorem en148 : enB Tryz.prog 148 = true := by kernel_rfl
theorem en149 : enB Tryz.prog 149 = true := by kernel_rfl
theorem en150 : enB Tryz.prog 150 = true := by kernel_rfl
theorem en151 : enB Tryz.prog 151 = true := by kernel_rfl
theorem en152 : enB Tryz.prog 152 = true := by kernel_rfl
theorem en162 : enB Tryz.prog 162 = true := by kernel_rfl
theorem en163 : enB Tryz.prog 163 = true := by kernel_rfl
theorem en164 : enB Tryz.prog 164 = true := by kernel_rfl
theorem en165 : enB Tryz.prog 165 = true := by kernel_rfl
theorem en166 : enB Tryz.prog 166 = true := by kernel_rfl
theorem en167 : enB Tryz.prog 167 = true := by kernel_rfl
theorem en168 : enB Tryz.prog 168 = true := by kernel_rfl
theorem en169 : enB Tryz.prog 169 = true := by kernel_rfl
theorem en170 : enB Tryz.prog 170 = true := by kernel_rfl
theorem en178 : enB Tryz.prog 178 = true := by kernel_rfl
theorem en179 : enB Tryz.prog 179 = true := by kernel_rfl
theorem en180 : enB Tryz.prog 180 = true := by kernel_rfl
theorem en181 : enB Tryz.prog 181 = true := by kernel_rfl
theorem en184 : enB Tryz.prog 184 = true := by kernel_rfl
theorem en185 : enB Tryz.prog 185 = true := by kernel_rfl
theorem sz3 : szB Tryz.prog 3 false 1 = true := by kernel_rfl
theorem by3 : byB Tryz.prog 3 8 = true := by kernel_rfl
theorem zr3 : zrB Tryz.prog 3 (.int .i64 0) := by unfold zrB; kernel_rfl
theorem int3 : intB Tryz.prog 3 .i64 = true := by kernel_rfl
theorem zr5 : zrB Tryz.prog 5 (.int .u8 0) := by unfold zrB; kernel_rfl
theorem int5 : intB Tryz.prog 5 .u8 = true := by kernel_rfl
theorem sz9 : szB Tryz.prog 9 false 1 = true := by kernel_rfl
theorem by9 : byB Tryz.prog 9 16 = true := by kernel_rfl
theorem zr9 : zrB Tryz.prog 9 (.string ⟨#[]⟩) := by unfold zrB; kernel_rfl
theorem str9 : isStr Tryz.prog 9 = true := by kernel_rfl
theorem sz22 : szB Tryz.prog 22 false 1 = true := by kernel_rfl
theorem sl22 : slB Tryz.prog 22 37 2 = true := by kernel_rfl
theorem isl22 : isSl Tryz.prog 22 = true := by kernel_rfl
theorem sz24 : szB Tryz.prog 24 true 4 = true := by kernel_rfl
theorem zr24 : zrB Tryz.prog 24 (.agg #[.int .i64 0, .int .i64 0, .int .i64 0, .int .i64 0]) := by unfold zrB; kernel_rfl
theorem fld24_0 : fldB Tryz.prog 24 0 0 = true := by kernel_rfl
theorem fld24_1 : fldB Tryz.prog 24 1 1 = true := by kernel_rfl
theorem fld24_2 : fldB Tryz.prog 24 2 2 = true := by kernel_rfl
theorem fld24_3 : fldB Tryz.prog 24 3 3 = true := by kernel_rfl
theorem pl24 : plB Tryz.prog 24 [(0, 1), (1, 1), (2, 1), (3, 1)] = true := by kernel_rfl
theorem eqi24 : EqI Tryz.prog 24 4 := by
  intro xs ys hx hy w
  match xs, ys, hx, hy with
  | [a0, a1, a2, a3], [b0, b1, b2, b3], _, _ =>
    refine ⟨fun x y => run_eqGuard_agg w .eql 24 x y _ _ (by kernel_rfl), fun x y => run_eqGuard_agg w .neq 24 x y _ _ (by kernel_rfl), ?_⟩
    have hf : (Tryz.prog.fieldsOf 24).toList = [⟨ "Wedge", 3, 0, false, "", "", 0⟩, ⟨ "Metal", 3, 1, false, "", "", 8⟩, ⟨ "Skips", 3, 2, false, "", "", 16⟩, ⟨ "Thick", 3, 3, false, "", "", 24⟩] := by kernel_rfl
    rw [show (10000 : Nat) = 9998 + 1 + 1 from rfl, run_equalIn_struct w (9998 + 1) 24 _ _ (by kernel_rfl) (by kernel_rfl), hf]
    have u3 := Tryz.underlying3; 
    simp [Op.eqFields, part, isAgg, run_underlying u3, iW, run_equalIn_int, u3, Result.andThen]
    (repeat' split) <;> simp_all
theorem sz26 : szB Tryz.prog 26 true 2 = true := by kernel_rfl
theorem zr26 : zrB Tryz.prog 26 (.agg #[.int .i64 0, .int .i64 0]) := by unfold zrB; kernel_rfl
theorem fld26_0 : fldB Tryz.prog 26 0 0 = true := by kernel_rfl
theorem fld26_1 : fldB Tryz.prog 26 1 1 = true := by kernel_rfl
theorem pl26 : plB Tryz.prog 26 [(0, 1), (1, 1)] = true := by kernel_rfl
theorem eqi26 : EqI Tryz.prog 26 2 := by
  intro xs ys hx hy w
  match xs, ys, hx, hy with
  | [a0, a1], [b0, b1], _, _ =>
    refine ⟨fun x y => run_eqGuard_agg w .eql 26 x y _ _ (by kernel_rfl), fun x y => run_eqGuard_agg w .neq 26 x y _ _ (by kernel_rfl), ?_⟩
    have hf : (Tryz.prog.fieldsOf 26).toList = [⟨ "First", 3, 0, false, "", "", 0⟩, ⟨ "Step", 3, 1, false, "", "", 8⟩] := by kernel_rfl
    rw [show (10000 : Nat) = 9998 + 1 + 1 from rfl, run_equalIn_struct w (9998 + 1) 26 _ _ (by kernel_rfl) (by kernel_rfl), hf]
    have u3 := Tryz.underlying3; 
    simp [Op.eqFields, part, isAgg, run_underlying u3, iW, run_equalIn_int, u3, Result.andThen]
    (repeat' split) <;> simp_all
theorem sz28 : szB Tryz.prog 28 true 11 = true := by kernel_rfl
theorem zr28 : zrB Tryz.prog 28 (.agg #[.slice none 0 0, .int .i64 0, .int .i64 0, .int .i64 0, .int .i64 0, .int .i64 0, .int .i64 0, .int .i64 0, .int .i64 0, .int .i64 0, .int .i64 0]) := by unfold zrB; kernel_rfl
theorem fld28_0 : fldB Tryz.prog 28 0 0 = true := by kernel_rfl
theorem fld28_1 : fldB Tryz.prog 28 1 1 = true := by kernel_rfl
theorem fld28_2 : fldB Tryz.prog 28 2 5 = true := by kernel_rfl
theorem fld28_3 : fldB Tryz.prog 28 3 9 = true := by kernel_rfl
theorem pl28 : plB Tryz.prog 28 [(0, 1), (1, 4), (5, 4), (9, 2)] = true := by kernel_rfl
theorem sz29 : szB Tryz.prog 29 false 1 = true := by kernel_rfl
theorem sl29 : slB Tryz.prog 29 3 1 = true := by kernel_rfl
theorem isl29 : isSl Tryz.prog 29 = true := by kernel_rfl
theorem sz30 : szB Tryz.prog 30 false 1 = true := by kernel_rfl
theorem sl30 : slB Tryz.prog 30 39 8 = true := by kernel_rfl
theorem isl30 : isSl Tryz.prog 30 = true := by kernel_rfl
theorem sz32 : szB Tryz.prog 32 true 13 = true := by kernel_rfl
theorem zr32 : zrB Tryz.prog 32 (.agg #[.slice none 0 0, .int .i64 0, .int .i64 0, .int .i64 0, .int .i64 0, .int .i64 0, .int .i64 0, .int .i64 0, .int .i64 0, .int .i64 0, .int .i64 0, .slice none 0 0, .slice none 0 0]) := by unfold zrB; kernel_rfl
theorem fld32_0 : fldB Tryz.prog 32 0 0 = true := by kernel_rfl
theorem fd32_0 : (match Tryz.prog.underlying 32 with | some (.struct fs) => (fs[0]?).map (fun fd => (fd.offset, fd.type)) | _ => none) = some (0, 28) := by kernel_rfl
theorem fld32_1 : fldB Tryz.prog 32 1 11 = true := by kernel_rfl
theorem fld32_2 : fldB Tryz.prog 32 2 12 = true := by kernel_rfl
theorem pl32 : plB Tryz.prog 32 [(0, 11), (11, 1), (12, 1)] = true := by kernel_rfl
theorem sz37 : szB Tryz.prog 37 true 2 = true := by kernel_rfl
theorem by37 : byB Tryz.prog 37 16 = true := by kernel_rfl
theorem zr37 : zrB Tryz.prog 37 (.agg #[.int .i64 0, .int .i64 0]) := by unfold zrB; kernel_rfl
theorem fld37_0 : fldB Tryz.prog 37 0 0 = true := by kernel_rfl
theorem fld37_1 : fldB Tryz.prog 37 1 1 = true := by kernel_rfl
theorem pl37 : plB Tryz.prog 37 [(0, 1), (1, 1)] = true := by kernel_rfl
theorem eqi37 : EqI Tryz.prog 37 2 := by
  intro xs ys hx hy w
  match xs, ys, hx, hy with
  | [a0, a1], [b0, b1], _, _ =>
    refine ⟨fun x y => run_eqGuard_agg w .eql 37 x y _ _ (by kernel_rfl), fun x y => run_eqGuard_agg w .neq 37 x y _ _ (by kernel_rfl), ?_⟩
    have hf : (Tryz.prog.fieldsOf 37).toList = [⟨ "X", 3, 0, false, "", "", 0⟩, ⟨ "Z", 3, 1, false, "", "", 8⟩] := by kernel_rfl
    rw [show (10000 : Nat) = 9998 + 1 + 1 from rfl, run_equalIn_struct w (9998 + 1) 37 _ _ (by kernel_rfl) (by kernel_rfl), hf]
    have u3 := Tryz.underlying3; 
    simp [Op.eqFields, part, isAgg, run_underlying u3, iW, run_equalIn_int, u3, Result.andThen]
    (repeat' split) <;> simp_all
theorem sz39 : szB Tryz.prog 39 true 8 = true := by kernel_rfl
theorem by39 : byB Tryz.prog 39 64 = true := by kernel_rfl
theorem zr39 : zrB Tryz.prog 39 (.agg #[.int .i64 0, .int .i64 0, .int .i64 0, .int .i64 0, .int .i64 0, .int .i64 0, .int .i64 0, .int .i64 0]) := by unfold zrB; kernel_rfl
theorem fld39_0 : fldB Tryz.prog 39 0 0 = true := by kernel_rfl
theorem fld39_1 : fldB Tryz.prog 39 1 1 = true := by kernel_rfl
theorem fld39_2 : fldB Tryz.prog 39 2 3 = true := by kernel_rfl
theorem fld39_3 : fldB Tryz.prog 39 3 5 = true := by kernel_rfl
theorem fld39_4 : fldB Tryz.prog 39 4 6 = true := by kernel_rfl
theorem fld39_5 : fldB Tryz.prog 39 5 7 = true := by kernel_rfl
theorem pl39 : plB Tryz.prog 39 [(0, 1), (1, 2), (3, 2), (5, 1), (6, 1), (7, 1)] = true := by kernel_rfl
theorem sz40 : szB Tryz.prog 40 false 1 = true := by kernel_rfl
theorem zr40 : zrB Tryz.prog 40 (.int .i64 0) := by unfold zrB; kernel_rfl
theorem sz60 : szB Tryz.prog 60 true 2 = true := by kernel_rfl
theorem zr60 : zrB Tryz.prog 60 (.agg #[.int .i64 0, .int .i64 0]) := by unfold zrB; kernel_rfl
theorem ar60 : arB Tryz.prog 60 2 3 1 = true := by kernel_rfl
theorem sz61 : szB Tryz.prog 61 false 1 = true := by kernel_rfl
theorem flt61 : fltB Tryz.prog 61 .f32 = true := by kernel_rfl
theorem sz63 : szB Tryz.prog 63 true 64 = true := by kernel_rfl
theorem zr63 : zrB Tryz.prog 63 (.agg #[.float .f32 0, .float .f32 0, .float .f32 0, .float .f32 0, .float .f32 0, .float .f32 0, .float .f32 0, .float .f32 0, .float .f32 0, .float .f32 0, .float .f32 0, .float .f32 0, .float .f32 0, .float .f32 0, .float .f32 0, .float .f32 0, .float .f32 0, .float .f32 0, .float .f32 0, .float .f32 0, .float .f32 0, .float .f32 0, .float .f32 0, .float .f32 0, .float .f32 0, .float .f32 0, .float .f32 0, .float .f32 0, .float .f32 0, .float .f32 0, .float .f32 0, .float .f32 0, .float .f32 0, .float .f32 0, .float .f32 0, .float .f32 0, .float .f32 0, .float .f32 0, .float .f32 0, .float .f32 0, .float .f32 0, .float .f32 0, .float .f32 0, .float .f32 0, .float .f32 0, .float .f32 0, .float .f32 0, .float .f32 0, .float .f32 0, .float .f32 0, .float .f32 0, .float .f32 0, .float .f32 0, .float .f32 0, .float .f32 0, .float .f32 0, .float .f32 0, .float .f32 0, .float .f32 0, .float .f32 0, .float .f32 0, .float .f32 0, .float .f32 0, .float .f32 0]) := by unfold zrB; kernel_rfl
theorem ar63 : arB Tryz.prog 63 64 61 1 = true := by kernel_rfl
theorem sz66 : szB Tryz.prog 66 false 1 = true := by kernel_rfl
theorem sl66 : slB Tryz.prog 66 72 3 = true := by kernel_rfl
theorem isl66 : isSl Tryz.prog 66 = true := by kernel_rfl
theorem sz72 : szB Tryz.prog 72 true 3 = true := by kernel_rfl
theorem by72 : byB Tryz.prog 72 24 = true := by kernel_rfl
theorem zr72 : zrB Tryz.prog 72 (.agg #[.int .i64 0, .int .i64 0, .int .i64 0]) := by unfold zrB; kernel_rfl
theorem fld72_0 : fldB Tryz.prog 72 0 0 = true := by kernel_rfl
theorem fld72_1 : fldB Tryz.prog 72 1 2 = true := by kernel_rfl
theorem pl72 : plB Tryz.prog 72 [(0, 2), (2, 1)] = true := by kernel_rfl
theorem sz76 : szB Tryz.prog 76 true 2 = true := by kernel_rfl
theorem ar76 : arB Tryz.prog 76 2 9 1 = true := by kernel_rfl
theorem sz77 : szB Tryz.prog 77 false 1 = true := by kernel_rfl
theorem sl77 : slB Tryz.prog 77 87 1 = true := by kernel_rfl
theorem isl77 : isSl Tryz.prog 77 = true := by kernel_rfl
theorem sz87 : szB Tryz.prog 87 false 1 = true := by kernel_rfl
theorem zr87 : zrB Tryz.prog 87 (.pointer none) := by unfold zrB; kernel_rfl
theorem sl90 : slB Tryz.prog 90 9 1 = true := by kernel_rfl
theorem isl90 : isSl Tryz.prog 90 = true := by kernel_rfl
theorem zr99 : zrB Tryz.prog 99 (.agg #[.string ⟨#[]⟩, .int .i64 0]) := by unfold zrB; kernel_rfl
theorem fld99_0 : fldB Tryz.prog 99 0 0 = true := by kernel_rfl
theorem fld99_1 : fldB Tryz.prog 99 1 1 = true := by kernel_rfl
theorem pl99 : plB Tryz.prog 99 [(0, 1), (1, 1)] = true := by kernel_rfl
theorem zr106 : zrB Tryz.prog 106 (.agg #[.slice none 0 0, .int .i64 0, .int .i64 0, .int .i64 0, .int .i64 0, .int .i64 0, .int .i64 0, .int .i64 0, .int .i64 0, .int .i64 0, .int .i64 0, .slice none 0 0, .slice none 0 0, .int .i64 0]) := by unfold zrB; kernel_rfl
theorem fld106_0 : fldB Tryz.prog 106 0 0 = true := by kernel_rfl
theorem fld106_1 : fldB Tryz.prog 106 1 13 = true := by kernel_rfl
theorem sz110 : szB Tryz.prog 110 true 11 = true := by kernel_rfl
theorem zr110 : zrB Tryz.prog 110 (.agg #[.slice none 0 0, .int .i64 0, .int .i64 0, .int .i64 0, .int .i64 0, .int .i64 0, .int .i64 0, .int .i64 0, .int .i64 0, .int .i64 0, .int .i64 0]) := by unfold zrB; kernel_rfl
theorem fld110_0 : fldB Tryz.prog 110 0 0 = true := by kernel_rfl
theorem pl110 : plB Tryz.prog 110 [(0, 11)] = true := by kernel_rfl
theorem sz115 : szB Tryz.prog 115 true 13 = true := by kernel_rfl
theorem zr115 : zrB Tryz.prog 115 (.agg #[.slice none 0 0, .int .i64 0, .int .i64 0, .int .i64 0, .int .i64 0, .int .i64 0, .int .i64 0, .int .i64 0, .int .i64 0, .int .i64 0, .int .i64 0, .slice none 0 0, .slice none 0 0]) := by unfold zrB; kernel_rfl
theorem fld115_0 : fldB Tryz.prog 115 0 0 = true := by kernel_rfl
theorem fld115_1 : fldB Tryz.prog 115 1 11 = true := by kernel_rfl
theorem fld115_2 : fldB Tryz.prog 115 2 12 = true := by kernel_rfl
theorem pl115 : plB Tryz.prog 115 [(0, 11), (11, 1), (12, 1)] = true := by kernel_rfl
theorem sl125 : slB Tryz.prog 125 61 1 = true := by kernel_rfl
theorem isl125 : isSl Tryz.prog 125 = true := by kernel_rfl
theorem sl136 : slB Tryz.prog 136 5 1 = true := by kernel_rfl
theorem sz149 : szB Tryz.prog 149 true 2 = true := by kernel_rfl
theorem zr149 : zrB Tryz.prog 149 (.agg #[.string ⟨#[]⟩, .slice none 0 0]) := by unfold zrB; kernel_rfl
theorem fld149_0 : fldB Tryz.prog 149 0 0 = true := by kernel_rfl
theorem fld149_1 : fldB Tryz.prog 149 1 1 = true := by kernel_rfl
theorem pl149 : plB Tryz.prog 149 [(0, 1), (1, 1)] = true := by kernel_rfl
theorem sz150 : szB Tryz.prog 150 true 6 = true := by kernel_rfl
theorem zr150 : zrB Tryz.prog 150 (.agg #[.string ⟨#[]⟩, .slice none 0 0, .string ⟨#[]⟩, .slice none 0 0, .string ⟨#[]⟩, .slice none 0 0]) := by unfold zrB; kernel_rfl
theorem ar150 : arB Tryz.prog 150 3 149 2 = true := by kernel_rfl
theorem zr155 : zrB Tryz.prog 155 (.agg #[.string ⟨#[]⟩, .string ⟨#[]⟩, .string ⟨#[]⟩]) := by unfold zrB; kernel_rfl
theorem ar155 : arB Tryz.prog 155 3 9 1 = true := by kernel_rfl
theorem zr156 : zrB Tryz.prog 156 (.agg #[.int .i64 0, .int .i64 0, .int .i64 0]) := by unfold zrB; kernel_rfl
theorem ar156 : arB Tryz.prog 156 3 3 1 = true := by kernel_rfl
theorem sl160 : slB Tryz.prog 160 40 1 = true := by kernel_rfl
theorem isl160 : isSl Tryz.prog 160 = true := by kernel_rfl
theorem zr162 : zrB Tryz.prog 162 (.agg #[.int .i64 0, .int .i64 0, .int .i64 0, .int .i64 0, .int .i64 0, .int .i64 0, .int .i64 0, .int .i64 0, .int .i64 0, .int .i64 0, .int .i64 0, .int .i64 0, .int .i64 0, .int .i64 0, .int .i64 0, .int .i64 0, .int .i64 0, .int .i64 0, .int .i64 0, .int .i64 0, .int .i64 0, .int .i64 0, .int .i64 0, .int .i64 0, .int .i64 0, .int .i64 0, .int .i64 0, .int .i64 0, .int .i64 0, .int .i64 0, .int .i64 0, .int .i64 0, .int .i64 0, .int .i64 0, .int .i64 0, .int .i64 0, .int .i64 0, .int .i64 0, .int .i64 0, .int .i64 0, .int .i64 0, .int .i64 0, .int .i64 0, .int .i64 0, .int .i64 0, .int .i64 0, .int .i64 0, .int .i64 0, .int .i64 0, .int .i64 0, .int .i64 0, .int .i64 0, .int .i64 0, .int .i64 0, .int .i64 0, .int .i64 0, .int .i64 0, .int .i64 0, .int .i64 0, .int .i64 0, .int .i64 0, .int .i64 0, .int .i64 0, .int .i64 0]) := by unfold zrB; kernel_rfl
theorem ar162 : arB Tryz.prog 162 64 3 1 = true := by kernel_rfl
theorem sz187 : szB Tryz.prog 187 true 2 = true := by kernel_rfl
theorem zr187 : zrB Tryz.prog 187 (.agg #[.int .i64 0, .int .i64 0]) := by unfold zrB; kernel_rfl
theorem fld187_0 : fldB Tryz.prog 187 0 0 = true := by kernel_rfl
theorem fld187_1 : fldB Tryz.prog 187 1 1 = true := by kernel_rfl
theorem pl187 : plB Tryz.prog 187 [(0, 1), (1, 1)] = true := by kernel_rfl
theorem sz194 : szB Tryz.prog 194 false 1 = true := by kernel_rfl
theorem int194 : intB Tryz.prog 194 .u64 = true := by kernel_rfl
theorem zr207 : zrB Tryz.prog 207 (.agg #[.int .i64 0, .int .i64 0, .int .i64 0, .int .i64 0, .int .i64 0, .int .i64 0]) := by unfold zrB; kernel_rfl
theorem fld207_0 : fldB Tryz.prog 207 0 0 = true := by kernel_rfl
theorem fld207_1 : fldB Tryz.prog 207 1 1 = true := by kernel_rfl
theorem fld207_2 : fldB Tryz.prog 207 2 2 = true := by kernel_rfl
theorem fld207_3 : fldB Tryz.prog 207 3 3 = true := by kernel_rfl
theorem fld207_4 : fldB Tryz.prog 207 4 4 = true := by kernel_rfl
theorem fld207_5 : fldB Tryz.prog 207 5 5 = true := by kernel_rfl
theorem pl207 : plB Tryz.prog 207 [(0, 1), (1, 1), (2, 1), (3, 1), (4, 1), (5, 1)] = true := by kernel_rfl
theorem sz209 : szB Tryz.prog 209 true 6 = true := by kernel_rfl
theorem zr209 : zrB Tryz.prog 209 (.agg #[.int .i64 0, .int .i64 0, .int .i64 0, .int .i64 0, .int .i64 0, .int .i64 0]) := by unfold zrB; kernel_rfl
theorem fld209_0 : fldB Tryz.prog 209 0 0 = true := by kernel_rfl
theorem pl209 : plB Tryz.prog 209 [(0, 6)] = true := by kernel_rfl
theorem int216 : intB Tryz.prog 216 .u64 = true := by kernel_rfl
theorem sz253 : szB Tryz.prog 253 true 2 = true := by kernel_rfl
theorem zr253 : zrB Tryz.prog 253 (.agg #[.int .u64 0, .int .u64 0]) := by unfold zrB; kernel_rfl
theorem fld253_0 : fldB Tryz.prog 253 0 0 = true := by kernel_rfl
theorem fld253_1 : fldB Tryz.prog 253 1 1 = true := by kernel_rfl
theorem pl253 : plB Tryz.prog 253 [(0, 1), (1, 1)] = true := by kernel_rfl
theorem eqk253 : EqK Tryz.prog .u64 253 2 := by
  intro xs ys hx hy w
  match xs, ys, hx, hy with
  | [a0, a1], [b0, b1], _, _ =>
    refine ⟨fun x y => run_eqGuard_agg w .eql 253 x y _ _ (by kernel_rfl), fun x y => run_eqGuard_agg w .neq 253 x y _ _ (by kernel_rfl), ?_⟩
    have hf : (Tryz.prog.fieldsOf 253).toList = [⟨ "high", 194, 0, false, "", "couplant/ray", 0⟩, ⟨ "low", 194, 1, false, "", "couplant/ray", 8⟩] := by kernel_rfl
    rw [show (10000 : Nat) = 9998 + 1 + 1 from rfl, run_equalIn_struct w (9998 + 1) 253 _ _ (by kernel_rfl) (by kernel_rfl), hf]
    have u194 := Tryz.underlying194; 
    simp [Op.eqFields, part, isAgg, run_underlying u194, kW, run_equalIn_int, u194, Result.andThen]
    (repeat' split) <;> simp_all
end Go.Proofs.YtkbdnkjjklbddaaGreatDoor.Am
