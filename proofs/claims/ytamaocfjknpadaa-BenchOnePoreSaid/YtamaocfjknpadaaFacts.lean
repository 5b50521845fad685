/- Closed facts of the program's types and functions. Conditions: none. -/
import Derived.Test.YtamaocfjknpadaaProg
import Derived.Test.YtamaocfjknpadaaAmD
import Derived.ChangeKeysEq
set_option linter.unusedVariables false
set_option linter.unusedSimpArgs false
namespace Go.Proofs.Ytamaocfjknpadaa.Am
open Go
theorem mixed : Try.prog.follows .mixedOrders = true := by kernel_rfl
theorem xa {w0 : Cx} {st : St} {l : List Oper} {id : Nat} {draw : Bool} {R : Exit → St → Prop} (n : Nat) (hW : RegW Try.prog w0 st l n (l.take n) 0 (fun _ => .dead) st (fun st' => Aops Try.prog w0 l (l.drop n) R st')) (h : (regB l n st.n && decide (n ≤ l.length) && (!draw || tailOk l n)) = true := by kernel_rfl) : Awp Try.prog w0 (.region id l.toArray draw) R st := awp_region n mixed h hW
theorem en6 : enB Try.prog 6 = true := by kernel_rfl
theorem en10 : enB Try.prog 10 = true := by kernel_rfl
theorem en11 : enB Try.prog 11 = true := by kernel_rfl
theorem en12 : enB Try.prog 12 = true := by kernel_rfl
theorem en13 : enB Try.prog 13 = true := by kernel_rfl
theorem en14 : enB Try.prog 14 = true := by kernel_rfl
theorem en15 : enB Try.prog 15 = true := by kernel_rfl
theorem en16 : enB Try.prog 16 = true := by kernel_rfl
theorem en17 : enB Try.prog 17 = true := by kernel_rfl
theorem en18 : enB Try.prog 18 = true := by kernel_rfl
theorem en19 : enB Try.prog 19 = true := by kernel_rfl
theorem en20 : enB Try.prog 20 = true := by kernel_rfl
theorem en21 : enB Try.prog 21 = true := by kernel_rfl
theorem en27 : enB Try.prog 27 = true := by kernel_rfl
theorem en28 : enB Try.prog 28 = true := by kernel_rfl
theorem en29 : enB Try.prog 29 = true := by kernel_rfl
theorem en30 : enB Try.prog 30 = true := by kernel_rfl
theorem en35 : enB Try.prog 35 = true := by kernel_rfl
theorem en36 : enB Try.prog 36 = true := by kernel_rfl
theorem en37 : enB Try.prog 37 = true := by kernel_rfl
theorem en38 : enB Try.prog 38 = true := by kernel_rfl
theorem en39 : enB Try.prog 39 = true := by kernel_rfl
theorem en40 : enB Try.prog 40 = true := by kernel_rfl
theorem en41 : enB Try.prog 41 = true := by kernel_rfl
theorem en42 : enB Try.prog 42 = true := by kernel_rfl
theorem en43 : enB Try.prog 43 = true := by kernel_rfl
theorem en44 : enB Try.prog 44 = true := by kernel_rfl
theorem en45 : enB Try.prog 45 = true := by kernel_rfl
theorem en46 : enB Try.prog 46 = true := by kernel_rfl
theorem en47 : enB Try.prog 47 = true := by kernel_rfl
theorem en48 : enB Try.prog 48 = true := by kernel_rfl
theorem en49 : enB Try.prog 49 = true := by kernel_rfl
theorem en50 : enB Try.prog 50 = true := by kernel_rfl
theorem en51 : enB Try.prog 51 = true := by kernel_rfl
theorem en54 : enB Try.prog 54 = true := by kernel_rfl
theorem en57 : enB Try.prog 57 = true := by kernel_rfl
theorem en58 : enB Try.prog 58 = true := by kernel_rfl
theorem en59 : enB Try.prog 59 = true := by kernel_rfl
theorem en60 : enB Try.prog 60 = true := by kernel_rfl
theorem en61 : enB Try.prog 61 = true := by kernel_rfl
theorem en63 : enB Try.prog 63 = true := by kernel_rfl
theorem en64 : enB Try.prog 64 = true := by kernel_rfl
theorem en65 : enB Try.prog 65 = true := by kernel_rfl
theorem en66 : enB Try.prog 66 = true := by kernel_rfl
theorem en67 : enB Try.prog 67 = true := by kernel_rfl
theorem en68 : enB Try.prog 68 = true := by kernel_rfl
theorem en69 : enB Try.prog 69 = true := by kernel_rfl
theorem en70 : enB Try.prog 70 = true := by kernel_rfl
theorem en71 : enB Try.prog 71 = true := by kernel_rfl
theorem en72 : enB Try.prog 72 = true := by kernel_rfl
theorem en73 : enB Try.prog 73 = true := by kernel_rfl
theorem en75 : enB Try.prog 75 = true := by kernel_rfl
theorem en76 : enB Try.prog 76 = true := by kernel_rfl
theorem en79 : enB Try.prog 79 = true := by kernel_rfl
theorem en81 : enB Try.prog 81 = true := by kernel_rfl
theorem en82 : enB Try.prog 82 = true := by kernel_rfl
theorem en83 : enB Try.prog 83 = true := by kernel_rfl
theorem en84 : enB Try.prog 84 = true := by kernel_rfl
theorem en85 : enB Try.prog 85 = true := by kernel_rfl
theorem en86 : enB Try.prog 86 = true := by kernel_rfl
theorem en87 : enB Try.prog 87 = true := by kernel_rfl
theorem en88 : enB Try.prog 88 = true := by kernel_rfl
theorem en89 : enB Try.prog 89 = true := by kernel_rfl
theorem en90 : enB Try.prog 90 = true := by kernel_rfl
theorem en91 : enB Try.prog 91 = true := by kernel_rfl
theorem en92 : enB Try.prog 92 = true := by kernel_rfl
theorem en93 : enB Try.prog 93 = true := by kernel_rfl
theorem en96 : enB Try.prog 96 = true := by kernel_rfl
theorem en97 : enB Try.prog 97 = true := by kernel_rfl
theorem en98 : enB Try.prog 98 = true := by kernel_rfl
theorem en99 : enB Try.prog 99 = true := by kernel_rfl
theorem en100 : enB Try.prog 100 = true := by kernel_rfl
theorem en101 : enB Try.prog 101 = true := by kernel_rfl
theorem en102 : enB Try.prog 102 = true := by kernel_rfl
theorem en103 : enB Try.prog 103 = true := by kernel_rfl
theorem en104 : enB Try.prog 104 = true := by kernel_rfl
theorem en106 : enB Try.prog 106 = true := by kernel_rfl
theorem en107 : enB Try.prog 107 = true := by kernel_rfl
theorem en108 : enB Try.prog 108 = true := by kernel_rfl
theorem en109 : enB Try.prog 109 = true := by kernel_rfl
theorem en110 : enB Try.prog 110 = true := by kernel_rfl
theorem en111 : enB Try.prog 111 = true := by kernel_rfl
theorem en112 : enB Try.prog 112 = true := by kernel_rfl
theorem en113 : enB Try.prog 113 = true := by kernel_rfl
theorem en114 : enB Try.prog 114 = true := by kernel_rfl
theorem en115 : enB Try.prog 115 = true := by kernel_rfl
theorem en116 : enB Try.prog 116 = true := by kernel_rfl
theorem en117 : enB Try.prog 117 = true := by kernel_rfl
theorem en118 : enB Try.prog 118 = true := by kernel_rfl
theorem en119 : enB Try.prog 119 = true := by kernel_rfl
theorem en120 : enB Try.prog 120 = true := by kernel_rfl
theorem en121 : enB Try.prog 121 = true := by kernel_rfl
theorem en122 : enB Try.prog 122 = true := by kernel_rfl
theorem en123 : enB Try.prog 123 = true := by kernel_rfl
theorem en124 : enB Try.prog 124 = true := by kernel_rfl
theorem en125 : enB Try.prog 125 = true := by kernel_rfl
theorem en126 : enB Try.prog 126 = true := by kernel_rfl
theorem en127 : enB Try.prog 127 = true := by kernel_rfl
theorem sz3 : szB Try.prog 3 false 1 = true := by kernel_rfl
theorem by3 : byB Try.prog 3 8 = true := by kernel_rfl
theorem zr3 : zrB Try.prog 3 (.int .i64 0) := by unfold zrB; kernel_rfl
theorem int3 : intB Try.prog 3 .i64 = true := by kernel_rfl
theorem sz23 : szB Try.prog 23 false 1 = true := by kernel_rfl
theorem sl23 : slB Try.prog 23 3 1 = true := by kernel_rfl
theorem isl23 : isSl Try.prog 23 = true := by kernel_rfl
theorem sz24 : szB Try.prog 24 false 1 = true := by kernel_rfl
theorem zr24 : zrB Try.prog 24 (.int .i64 0) := by unfold zrB; kernel_rfl
theorem sz31 : szB Try.prog 31 false 1 = true := by kernel_rfl
theorem sl31 : slB Try.prog 31 46 2 = true := by kernel_rfl
theorem isl31 : isSl Try.prog 31 = true := by kernel_rfl
theorem sz33 : szB Try.prog 33 true 4 = true := by kernel_rfl
theorem zr33 : zrB Try.prog 33 (.agg #[.int .i64 0, .int .i64 0, .int .i64 0, .int .i64 0]) := by unfold zrB; kernel_rfl
theorem fld33_0 : fldB Try.prog 33 0 0 = true := by kernel_rfl
theorem fld33_1 : fldB Try.prog 33 1 1 = true := by kernel_rfl
theorem fld33_2 : fldB Try.prog 33 2 2 = true := by kernel_rfl
theorem fld33_3 : fldB Try.prog 33 3 3 = true := by kernel_rfl
theorem pl33 : plB Try.prog 33 [(0, 1), (1, 1), (2, 1), (3, 1)] = true := by kernel_rfl
theorem sz35 : szB Try.prog 35 true 2 = true := by kernel_rfl
theorem zr35 : zrB Try.prog 35 (.agg #[.int .i64 0, .int .i64 0]) := by unfold zrB; kernel_rfl
theorem fld35_0 : fldB Try.prog 35 0 0 = true := by kernel_rfl
theorem fld35_1 : fldB Try.prog 35 1 1 = true := by kernel_rfl
theorem pl35 : plB Try.prog 35 [(0, 1), (1, 1)] = true := by kernel_rfl
theorem sz37 : szB Try.prog 37 true 11 = true := by kernel_rfl
theorem zr37 : zrB Try.prog 37 (.agg #[.slice none 0 0, .int .i64 0, .int .i64 0, .int .i64 0, .int .i64 0, .int .i64 0, .int .i64 0, .int .i64 0, .int .i64 0, .int .i64 0, .int .i64 0]) := by unfold zrB; kernel_rfl
theorem fld37_0 : fldB Try.prog 37 0 0 = true := by kernel_rfl
theorem fld37_1 : fldB Try.prog 37 1 1 = true := by kernel_rfl
theorem fld37_2 : fldB Try.prog 37 2 5 = true := by kernel_rfl
theorem fld37_3 : fldB Try.prog 37 3 9 = true := by kernel_rfl
theorem pl37 : plB Try.prog 37 [(0, 1), (1, 4), (5, 4), (9, 2)] = true := by kernel_rfl
theorem sz38 : szB Try.prog 38 false 1 = true := by kernel_rfl
theorem sl38 : slB Try.prog 38 48 8 = true := by kernel_rfl
theorem isl38 : isSl Try.prog 38 = true := by kernel_rfl
theorem sz40 : szB Try.prog 40 true 13 = true := by kernel_rfl
theorem zr40 : zrB Try.prog 40 (.agg #[.slice none 0 0, .int .i64 0, .int .i64 0, .int .i64 0, .int .i64 0, .int .i64 0, .int .i64 0, .int .i64 0, .int .i64 0, .int .i64 0, .int .i64 0, .slice none 0 0, .slice none 0 0]) := by unfold zrB; kernel_rfl
theorem fld40_0 : fldB Try.prog 40 0 0 = true := by kernel_rfl
theorem fd40_0 : (match Try.prog.underlying 40 with | some (.struct fs) => (fs[0]?).map (fun fd => (fd.offset, fd.type)) | _ => none) = some (0, 37) := by kernel_rfl
theorem fld40_1 : fldB Try.prog 40 1 11 = true := by kernel_rfl
theorem fld40_2 : fldB Try.prog 40 2 12 = true := by kernel_rfl
theorem pl40 : plB Try.prog 40 [(0, 11), (11, 1), (12, 1)] = true := by kernel_rfl
theorem sz41 : szB Try.prog 41 true 2 = true := by kernel_rfl
theorem zr41 : zrB Try.prog 41 (.agg #[.int .i64 0, .int .i64 0]) := by unfold zrB; kernel_rfl
theorem ar41 : arB Try.prog 41 2 3 1 = true := by kernel_rfl
theorem sz46 : szB Try.prog 46 true 2 = true := by kernel_rfl
theorem by46 : byB Try.prog 46 16 = true := by kernel_rfl
theorem zr46 : zrB Try.prog 46 (.agg #[.int .i64 0, .int .i64 0]) := by unfold zrB; kernel_rfl
theorem fld46_0 : fldB Try.prog 46 0 0 = true := by kernel_rfl
theorem fld46_1 : fldB Try.prog 46 1 1 = true := by kernel_rfl
theorem pl46 : plB Try.prog 46 [(0, 1), (1, 1)] = true := by kernel_rfl
theorem eqi46 : EqI Try.prog 46 2 := by
  intro xs ys hx hy w
  match xs, ys, hx, hy with
  | [a0, a1], [b0, b1], _, _ =>
    refine ⟨fun x y => run_eqGuard_agg w .eql 46 x y _ _ (by kernel_rfl), fun x y => run_eqGuard_agg w .neq 46 x y _ _ (by kernel_rfl), ?_⟩
    have hf : (Try.prog.fieldsOf 46).toList = [⟨ "X", 3, 0, false, "", "", 0⟩, ⟨ "Z", 3, 1, false, "", "", 8⟩] := by kernel_rfl
    rw [show (10000 : Nat) = 9998 + 1 + 1 from rfl, run_equalIn_struct w (9998 + 1) 46 _ _ (by kernel_rfl) (by kernel_rfl), hf]
    have u3 := Try.underlying3; 
    simp [Op.eqFields, part, isAgg, run_underlying u3, iW, run_equalIn_int, u3, Result.andThen]
    (repeat' split) <;> simp_all
theorem sz48 : szB Try.prog 48 true 8 = true := by kernel_rfl
theorem by48 : byB Try.prog 48 64 = true := by kernel_rfl
theorem zr48 : zrB Try.prog 48 (.agg #[.int .i64 0, .int .i64 0, .int .i64 0, .int .i64 0, .int .i64 0, .int .i64 0, .int .i64 0, .int .i64 0]) := by unfold zrB; kernel_rfl
theorem fld48_0 : fldB Try.prog 48 0 0 = true := by kernel_rfl
theorem fld48_1 : fldB Try.prog 48 1 1 = true := by kernel_rfl
theorem fld48_2 : fldB Try.prog 48 2 3 = true := by kernel_rfl
theorem fld48_3 : fldB Try.prog 48 3 5 = true := by kernel_rfl
theorem fld48_4 : fldB Try.prog 48 4 6 = true := by kernel_rfl
theorem fld48_5 : fldB Try.prog 48 5 7 = true := by kernel_rfl
theorem pl48 : plB Try.prog 48 [(0, 1), (1, 2), (3, 2), (5, 1), (6, 1), (7, 1)] = true := by kernel_rfl
theorem sz52 : szB Try.prog 52 false 1 = true := by kernel_rfl
theorem flt52 : fltB Try.prog 52 .f32 = true := by kernel_rfl
theorem sz54 : szB Try.prog 54 true 64 = true := by kernel_rfl
theorem zr54 : zrB Try.prog 54 (.agg #[.float .f32 0, .float .f32 0, .float .f32 0, .float .f32 0, .float .f32 0, .float .f32 0, .float .f32 0, .float .f32 0, .float .f32 0, .float .f32 0, .float .f32 0, .float .f32 0, .float .f32 0, .float .f32 0, .float .f32 0, .float .f32 0, .float .f32 0, .float .f32 0, .float .f32 0, .float .f32 0, .float .f32 0, .float .f32 0, .float .f32 0, .float .f32 0, .float .f32 0, .float .f32 0, .float .f32 0, .float .f32 0, .float .f32 0, .float .f32 0, .float .f32 0, .float .f32 0, .float .f32 0, .float .f32 0, .float .f32 0, .float .f32 0, .float .f32 0, .float .f32 0, .float .f32 0, .float .f32 0, .float .f32 0, .float .f32 0, .float .f32 0, .float .f32 0, .float .f32 0, .float .f32 0, .float .f32 0, .float .f32 0, .float .f32 0, .float .f32 0, .float .f32 0, .float .f32 0, .float .f32 0, .float .f32 0, .float .f32 0, .float .f32 0, .float .f32 0, .float .f32 0, .float .f32 0, .float .f32 0, .float .f32 0, .float .f32 0, .float .f32 0, .float .f32 0]) := by unfold zrB; kernel_rfl
theorem ar54 : arB Try.prog 54 64 52 1 = true := by kernel_rfl
theorem sl64 : slB Try.prog 64 52 1 = true := by kernel_rfl
theorem isl64 : isSl Try.prog 64 = true := by kernel_rfl
theorem sz77 : szB Try.prog 77 false 1 = true := by kernel_rfl
theorem sl77 : slB Try.prog 77 82 3 = true := by kernel_rfl
theorem isl77 : isSl Try.prog 77 = true := by kernel_rfl
theorem sz82 : szB Try.prog 82 true 3 = true := by kernel_rfl
theorem by82 : byB Try.prog 82 24 = true := by kernel_rfl
theorem zr82 : zrB Try.prog 82 (.agg #[.int .i64 0, .int .i64 0, .int .i64 0]) := by unfold zrB; kernel_rfl
theorem fld82_0 : fldB Try.prog 82 0 0 = true := by kernel_rfl
theorem fld82_1 : fldB Try.prog 82 1 2 = true := by kernel_rfl
theorem pl82 : plB Try.prog 82 [(0, 2), (2, 1)] = true := by kernel_rfl
theorem sz91 : szB Try.prog 91 true 11 = true := by kernel_rfl
theorem zr91 : zrB Try.prog 91 (.agg #[.slice none 0 0, .int .i64 0, .int .i64 0, .int .i64 0, .int .i64 0, .int .i64 0, .int .i64 0, .int .i64 0, .int .i64 0, .int .i64 0, .int .i64 0]) := by unfold zrB; kernel_rfl
theorem fld91_0 : fldB Try.prog 91 0 0 = true := by kernel_rfl
theorem pl91 : plB Try.prog 91 [(0, 11)] = true := by kernel_rfl
theorem zr101 : zrB Try.prog 101 (.agg #[.int .i64 0, .int .i64 0, .int .i64 0, .int .i64 0, .int .i64 0, .int .i64 0, .int .i64 0, .int .i64 0, .int .i64 0, .int .i64 0, .int .i64 0, .int .i64 0, .int .i64 0, .int .i64 0, .int .i64 0, .int .i64 0, .int .i64 0, .int .i64 0, .int .i64 0, .int .i64 0, .int .i64 0, .int .i64 0, .int .i64 0, .int .i64 0, .int .i64 0, .int .i64 0, .int .i64 0, .int .i64 0, .int .i64 0, .int .i64 0, .int .i64 0, .int .i64 0, .int .i64 0, .int .i64 0, .int .i64 0, .int .i64 0, .int .i64 0, .int .i64 0, .int .i64 0, .int .i64 0, .int .i64 0, .int .i64 0, .int .i64 0, .int .i64 0, .int .i64 0, .int .i64 0, .int .i64 0, .int .i64 0, .int .i64 0, .int .i64 0, .int .i64 0, .int .i64 0, .int .i64 0, .int .i64 0, .int .i64 0, .int .i64 0, .int .i64 0, .int .i64 0, .int .i64 0, .int .i64 0, .int .i64 0, .int .i64 0, .int .i64 0, .int .i64 0]) := by unfold zrB; kernel_rfl
theorem ar101 : arB Try.prog 101 64 3 1 = true := by kernel_rfl
theorem sz105 : szB Try.prog 105 true 13 = true := by kernel_rfl
theorem zr105 : zrB Try.prog 105 (.agg #[.slice none 0 0, .int .i64 0, .int .i64 0, .int .i64 0, .int .i64 0, .int .i64 0, .int .i64 0, .int .i64 0, .int .i64 0, .int .i64 0, .int .i64 0, .slice none 0 0, .slice none 0 0]) := by unfold zrB; kernel_rfl
theorem fld105_0 : fldB Try.prog 105 0 0 = true := by kernel_rfl
theorem fld105_1 : fldB Try.prog 105 1 11 = true := by kernel_rfl
theorem fld105_2 : fldB Try.prog 105 2 12 = true := by kernel_rfl
theorem pl105 : plB Try.prog 105 [(0, 11), (11, 1), (12, 1)] = true := by kernel_rfl
theorem sl131 : slB Try.prog 131 24 1 = true := by kernel_rfl
theorem isl131 : isSl Try.prog 131 = true := by kernel_rfl
theorem sz156 : szB Try.prog 156 true 2 = true := by kernel_rfl
theorem zr156 : zrB Try.prog 156 (.agg #[.int .i64 0, .int .i64 0]) := by unfold zrB; kernel_rfl
theorem fld156_0 : fldB Try.prog 156 0 0 = true := by kernel_rfl
theorem fld156_1 : fldB Try.prog 156 1 1 = true := by kernel_rfl
theorem pl156 : plB Try.prog 156 [(0, 1), (1, 1)] = true := by kernel_rfl
theorem zr161 : zrB Try.prog 161 (.agg #[.int .i64 0, .int .i64 0, .int .i64 0, .int .i64 0, .int .i64 0, .int .i64 0]) := by unfold zrB; kernel_rfl
theorem fld161_0 : fldB Try.prog 161 0 0 = true := by kernel_rfl
theorem fld161_1 : fldB Try.prog 161 1 1 = true := by kernel_rfl
theorem fld161_2 : fldB Try.prog 161 2 2 = true := by kernel_rfl
theorem fld161_3 : fldB Try.prog 161 3 3 = true := by kernel_rfl
theorem fld161_4 : fldB Try.prog 161 4 4 = true := by kernel_rfl
theorem fld161_5 : fldB Try.prog 161 5 5 = true := by kernel_rfl
theorem pl161 : plB Try.prog 161 [(0, 1), (1, 1), (2, 1), (3, 1), (4, 1), (5, 1)] = true := by kernel_rfl
theorem sz163 : szB Try.prog 163 true 6 = true := by kernel_rfl
theorem zr163 : zrB Try.prog 163 (.agg #[.int .i64 0, .int .i64 0, .int .i64 0, .int .i64 0, .int .i64 0, .int .i64 0]) := by unfold zrB; kernel_rfl
theorem fld163_0 : fldB Try.prog 163 0 0 = true := by kernel_rfl
theorem pl163 : plB Try.prog 163 [(0, 6)] = true := by kernel_rfl
theorem int175 : intB Try.prog 175 .u64 = true := by kernel_rfl
theorem sz176 : szB Try.prog 176 false 1 = true := by kernel_rfl
theorem int176 : intB Try.prog 176 .u64 = true := by kernel_rfl
theorem sz178 : szB Try.prog 178 true 2 = true := by kernel_rfl
theorem zr178 : zrB Try.prog 178 (.agg #[.int .u64 0, .int .u64 0]) := by unfold zrB; kernel_rfl
theorem fld178_0 : fldB Try.prog 178 0 0 = true := by kernel_rfl
theorem fld178_1 : fldB Try.prog 178 1 1 = true := by kernel_rfl
theorem pl178 : plB Try.prog 178 [(0, 1), (1, 1)] = true := by kernel_rfl
theorem eqk178 : EqK Try.prog .u64 178 2 := by
  intro xs ys hx hy w
  match xs, ys, hx, hy with
  | [a0, a1], [b0, b1], _, _ =>
    refine ⟨fun x y => run_eqGuard_agg w .eql 178 x y _ _ (by kernel_rfl), fun x y => run_eqGuard_agg w .neq 178 x y _ _ (by kernel_rfl), ?_⟩
    have hf : (Try.prog.fieldsOf 178).toList = [⟨ "high", 176, 0, false, "", "couplant/ray", 0⟩, ⟨ "low", 176, 1, false, "", "couplant/ray", 8⟩] := by kernel_rfl
    rw [show (10000 : Nat) = 9998 + 1 + 1 from rfl, run_equalIn_struct w (9998 + 1) 178 _ _ (by kernel_rfl) (by kernel_rfl), hf]
    have u176 := Try.underlying176; 
    simp [Op.eqFields, part, isAgg, run_underlying u176, kW, run_equalIn_int, u176, Result.andThen]
    (repeat' split) <;> simp_all
end Go.Proofs.Ytamaocfjknpadaa.Am
