/- Whatever the task and the modes, FocusModes returns true, and its arguments read behind the call as before. Conditions: none. -/
import Derived.Test.YtamaocfjknpadaaGreatJ5
import Derived.Test.YtamaocfjknpadaaGreatAmC
import Derived.Test.YtamaocfjknpadaaGreatRows
import Derived.Test.YtamaocfjknpadaaGreatJL
import Derived.WalkKit
import Derived.ProofKit
import Derived.OpenShut
import Derived.ShutString
import Derived.ChangeOld
import Derived.Below
import Derived.Leaving
import Derived.Conc.Holds
namespace Go.Proofs.YtamaocfjknpadaaGreat
open Go Go.ChangeShapes Go.WideShapes Go.ChangeAt Go.RowKit Am Am.M
open Go.ChangeMaps (open_string shut_string)
set_option linter.unusedVariables false
set_option linter.unusedSimpArgs false
theorem own : ownKnob Tryz.prog.godebug = none := by kernel_rfl
theorem laidOut : laidOutB Tryz.prog = true := by kernel_rfl
theorem rd3 {H : Type} {enc : TypeId × Value → H} {w : World} {base : Nat} {spare : Nat → Bool} {held : Bool} : Reads enc Tryz.prog w base spare held 3 (fun n : Int => [.v (.int .i64 n)]) (fun n => (Lit.int .i64 n).wf = true) := reads_int Tryz.underlying3
theorem rd33 {H : Type} {enc : TypeId × Value → H} {w : World} {base : Nat} {spare : Nat → Bool} {held : Bool} : Reads enc Tryz.prog w base spare held 33 shC (fun _ => True) :=
  (reads_struct (ts := [(3, 1), (3, 1)]) (by kernel_rfl) (readsF_cons rd3 (readsF_cons rd3 readsF_nil))).map (fun p => (p.1, p.2.1)) (fun a h => ⟨by first | rfl | simp [D.cells], trivial⟩)
theorem rd22 {H : Type} {enc : TypeId × Value → H} {w : World} {base : Nat} {spare : Nat → Bool} {held : Bool} : Reads enc Tryz.prog w base spare held 22 (fun l : List (Int × Int) => [.sl 2 (l.map shC)]) (fun l => ∀ a ∈ l, (fun _ => True) a) := reads_slice Tryz.underlying22 (by kernel_rfl) (by decide) (fun _ => by first | rfl | simp) rd33
theorem rd24 {H : Type} {enc : TypeId × Value → H} {w : World} {base : Nat} {spare : Nat → Bool} {held : Bool} : Reads enc Tryz.prog w base spare held 24 mdC (fun _ => True) :=
  (reads_struct (ts := [(3, 1), (3, 1), (3, 1), (3, 1)]) (by kernel_rfl) (readsF_cons rd3 (readsF_cons rd3 (readsF_cons rd3 (readsF_cons rd3 readsF_nil))))).map (fun p => ⟨p.1, p.2.1, p.2.2.1, p.2.2.2.1⟩) (fun a h => ⟨by first | rfl | simp [D.cells], trivial⟩)
theorem rd26 {H : Type} {enc : TypeId × Value → H} {w : World} {base : Nat} {spare : Nat → Bool} {held : Bool} : Reads enc Tryz.prog w base spare held 26 shC (fun _ => True) :=
  (reads_struct (ts := [(3, 1), (3, 1)]) (by kernel_rfl) (readsF_cons rd3 (readsF_cons rd3 readsF_nil))).map (fun p => (p.1, p.2.1)) (fun a h => ⟨by first | rfl | simp [D.cells], trivial⟩)
theorem rd28 {H : Type} {enc : TypeId × Value → H} {w : World} {base : Nat} {spare : Nat → Bool} {held : Bool} : Reads enc Tryz.prog w base spare held 28 arrC (fun _ => True) :=
  (reads_struct (ts := [(22, 1), (24, 4), (24, 4), (26, 2)]) (by kernel_rfl) (readsF_cons rd22 (readsF_cons rd24 (readsF_cons rd24 (readsF_cons rd26 readsF_nil))))).map (fun p => ⟨p.1, p.2.1, p.2.2.1, p.2.2.2.1⟩) (fun a h => ⟨by first | rfl | simp [D.cells], trivial⟩)
theorem rd117 {H : Type} {enc : TypeId × Value → H} {w : World} {base : Nat} {spare : Nat → Bool} {held : Bool} : Reads enc Tryz.prog w base spare held 117 (fun b : Nat => [.v (.float .f32 b)]) (fun b => (Lit.float .f32 b).wf = true) := reads_float Tryz.underlying117
theorem rd29 {H : Type} {enc : TypeId × Value → H} {w : World} {base : Nat} {spare : Nat → Bool} {held : Bool} : Reads enc Tryz.prog w base spare held 29 (fun l : List (Nat) => [.sl 1 (l.map (fun b : Nat => [.v (.float .f32 b)]))]) (fun l => ∀ a ∈ l, (fun b => (Lit.float .f32 b).wf = true) a) := reads_slice Tryz.underlying29 (by kernel_rfl) (by decide) (fun _ => by first | rfl | simp) rd117
theorem rd31 {H : Type} {enc : TypeId × Value → H} {w : World} {base : Nat} {spare : Nat → Bool} {held : Bool} : Reads enc Tryz.prog w base spare held 31 (fun m : Int × List Nat => mtxC m.1 m.2) (fun _ => True) :=
  (reads_struct (ts := [(3, 1), (29, 1)]) (by kernel_rfl) (readsF_cons rd3 (readsF_cons rd29 readsF_nil))).map (fun p => (p.1, p.2.1)) (fun a h => ⟨by first | rfl | simp [D.cells], trivial⟩)
theorem rd35 {H : Type} {enc : TypeId × Value → H} {w : World} {base : Nat} {spare : Nat → Bool} {held : Bool} : Reads enc Tryz.prog w base spare held 35 grdC (fun _ => True) :=
  (reads_struct (ts := [(33, 2), (3, 1), (3, 1), (3, 1)]) (by kernel_rfl) (readsF_cons rd33 (readsF_cons rd3 (readsF_cons rd3 (readsF_cons rd3 readsF_nil))))).map (fun p => ⟨p.1.1, p.1.2, p.2.1, p.2.2.1, p.2.2.2.1⟩) (fun a h => ⟨by first | rfl | simp [D.cells], trivial⟩)
theorem rd37 {H : Type} {enc : TypeId × Value → H} {w : World} {base : Nat} {spare : Nat → Bool} {held : Bool} : Reads enc Tryz.prog w base spare held 37 tskC (fun _ => True) :=
  (reads_struct (ts := [(28, 11), (31, 2), (35, 5)]) (by kernel_rfl) (readsF_cons rd28 (readsF_cons rd31 (readsF_cons rd35 readsF_nil)))).map (fun p => ⟨p.1, p.2.1.1, p.2.1.2, p.2.2.1⟩) (fun a h => ⟨by first | rfl | simp [D.cells], trivial⟩)
theorem rd203 {H : Type} {enc : TypeId × Value → H} {w : World} {base : Nat} {spare : Nat → Bool} {held : Bool} : Reads enc Tryz.prog w base spare held 203 md2C (fun _ => True) :=
  (reads_array (s := 4) (m := 2) (e := 24) (by kernel_rfl) rd24).map (fun l => (l.getD 0 ⟨0, 0, 0, 0⟩, l.getD 1 ⟨0, 0, 0, 0⟩)) (fun a h => ⟨by match a, h.1 with | [x, y], _ => rfl, trivial⟩)
theorem rd87 {H : Type} {enc : TypeId × Value → H} {w : World} {base : Nat} {spare : Nat → Bool} {held : Bool} : Reads enc Tryz.prog w base spare held 87 (fun l : List (Md × Md) => [.sl 8 (l.map md2C)]) (fun l => ∀ a ∈ l, (fun _ => True) a) := reads_slice Tryz.underlying87 (by kernel_rfl) (by decide) (fun _ => by first | rfl | simp) rd203
set_option maxRecDepth 100000 in
theorem focusModes_lifted (os : Os) (started : os.Started) (H : Type) (enc : TypeId × Value → H) :
    ReturnsInHanded {} Tryz.checked os 9 .any (Rows.focusModesSpec.pre6 enc Tryz.prog Tryz.f9 Rows.focusModesRow.domain false) (Rows.focusModesSpec.post enc Tryz.prog Tryz.f9 false true false false) := by
  refine returnsInHanded_of_change (C := Tryz.checked) own started (by kernel_rfl) Tryz.func9
    (ChangeSpec.witness6 (enc := enc) (C := Tryz.checked) false ⟨#[], #[.agg #[.slice none 0 0, .int .i64 0, .int .i64 0, .int .i64 0, .int .i64 0, .int .i64 0, .int .i64 0, .int .i64 0, .int .i64 0, .int .i64 0, .int .i64 0, .int .i64 0, .slice none 0 0, .int .i64 0, .int .i64 0, .int .i64 0, .int .i64 0, .int .i64 0], .slice none 0 0], []⟩ 8 (by kernel_rfl) (by kernel_rfl) (by kernel_rfl) (by kernel_rfl)) ?_
  intro W base args ds gs before hval0 hW hcnd _
  have hval : ∀ (j : Nat) t v, Tryz.f9.params[j]? = some t → args[j]? = some v → Value.okWide Tryz.prog W .any base t v := hval0
  have hW' := hW
  obtain ⟨p, q, hA0, hV, rfl, hfz, hnd⟩ := hW
  have hA : DataW.TrodAll enc Tryz.prog W 0 (fun _ => true) true Tryz.f9.params.toList args.toList ds p := hA0
  rw [Tryz.params9] at hA hval
  obtain ⟨v0, vs0, d0, ds0, p0, q0, hargs, rfl, rfl, h0, r0⟩ := trodAll_cons hA
  obtain ⟨v1, vs1, d1, ds1, p1, q1, rfl, rfl, rfl, h1, r1⟩ := trodAll_cons r0
  obtain ⟨rfl, rfl, rfl⟩ := trodAll_nil r1
  obtain rfl : args = #[v0, v1] := by cases args; simp_all
  obtain ⟨rfl, rfl⟩ := trodVars_none hV
  have lt0 : ∀ x ∈ p0, x.block < W.heap.size := by obtain ⟨m, hm⟩ := h0; exact DataW.trod_lt m _ _ _ hm
  obtain ⟨cs0, rfl, -⟩ := okWide_struct Tryz.underlying37 (hval 0 37 v0 rfl rfl)
  obtain ⟨l0, g0, e0⟩ := arg_agg h0 rd37
  have lt1 : ∀ x ∈ p1, x.block < W.heap.size := by obtain ⟨m, hm⟩ := h1; exact DataW.trod_lt m _ _ _ hm
  obtain ⟨b1, len1, cap1, rfl⟩ := okWide_slice Tryz.underlying87 (hval 1 87 v1 rfl rfl)
  obtain ⟨l1, g1, e1⟩ := arg_one h1 rd87 rfl
  clear hA0 hval0
  refine ((focusModes_p l0 l1) W okAll [_, _] ⟨e0, e1, trivial⟩).mono fun e W' ⟨v, he, bel, hv⟩ => ?_
  obtain rfl := Rep.v_eq hv
  subst he
  exact ⟨_, rfl, _, _, _, [], _, [], hW', trodAll_mk1 (shut_bool Tryz.underlying4 _), (trodAll_cons_mk (Below.trod laidOut (by kernel_rfl) (of_decide_eq_true (by kernel_rfl)) h0 bel lt0) (trodAll_cons_mk (Below.trod laidOut (by kernel_rfl) (of_decide_eq_true (by kernel_rfl)) h1 bel lt1) trodAll_mk0)), rfl, bel.frame _, fun h => by cases h⟩
theorem focusModes_left (os : Os) (started : os.Started) (H : Type) (enc : TypeId × Value → H) :
    ReturnsInLeavingWide {} Tryz.checked os 9 .any (Rows.focusModesSpec.pre6 enc Tryz.prog Tryz.f9 Rows.focusModesRow.domain false) (Rows.focusModesSpec.post enc Tryz.prog Tryz.f9 false true false false) :=
  leaving_of_handed (focusModes_lifted os started H enc)
theorem focusModes_j0 : (fun (P : Program) (f : FuncId) (fn : Func) (s : ChangeSpec) (c : OpenClaim) => c.wf (OpenSpec.ofChange s)) Tryz.pinned.checked.prog 9 Tryz.f9 Rows.focusModesSpec Rows.focusModesRow = true := by kernel_rfl
theorem focusModes_j3 : (fun (P : Program) (f : FuncId) (fn : Func) (s : ChangeSpec) (c : OpenClaim) => fn.params.all (P.readableRec ·)) Tryz.pinned.checked.prog 9 Tryz.f9 Rows.focusModesSpec Rows.focusModesRow = true := by kernel_rfl
theorem focusModes_j4 : (fun (P : Program) (f : FuncId) (fn : Func) (s : ChangeSpec) (c : OpenClaim) => namedTie P c.named s.vars) Tryz.pinned.checked.prog 9 Tryz.f9 Rows.focusModesSpec Rows.focusModesRow = true := by kernel_rfl
theorem focusModes_j5 : (fun (P : Program) (f : FuncId) (fn : Func) (s : ChangeSpec) (c : OpenClaim) => (c.stops == [])) Tryz.pinned.checked.prog 9 Tryz.f9 Rows.focusModesSpec Rows.focusModesRow = true := by kernel_rfl
theorem focusModes_j7 : (fun (P : Program) (f : FuncId) (fn : Func) (s : ChangeSpec) (c : OpenClaim) => (c.knobs == [])) Tryz.pinned.checked.prog 9 Tryz.f9 Rows.focusModesSpec Rows.focusModesRow = true := by kernel_rfl
theorem focusModes_j9 : (fun (P : Program) (f : FuncId) (fn : Func) (s : ChangeSpec) (c : OpenClaim) => (c.inPlace == P.inPlace f)) Tryz.pinned.checked.prog 9 Tryz.f9 Rows.focusModesSpec Rows.focusModesRow = true := by kernel_rfl
theorem focusModes_j10 : (fun (P : Program) (f : FuncId) (fn : Func) (s : ChangeSpec) (c : OpenClaim) => (c.unfollowed == P.unfollowed f)) Tryz.pinned.checked.prog 9 Tryz.f9 Rows.focusModesSpec Rows.focusModesRow = true := by kernel_rfl
theorem focusModes_j11 : (fun (P : Program) (f : FuncId) (fn : Func) (s : ChangeSpec) (c : OpenClaim) => (c.recurses == P.recurses f)) Tryz.pinned.checked.prog 9 Tryz.f9 Rows.focusModesSpec Rows.focusModesRow = true := by kernel_rfl
theorem focusModes_j12 : (fun (P : Program) (f : FuncId) (fn : Func) (s : ChangeSpec) (c : OpenClaim) => (c.named == P.varsNamed f)) Tryz.pinned.checked.prog 9 Tryz.f9 Rows.focusModesSpec Rows.focusModesRow = true := by kernel_rfl
theorem focusModes_j13 : (fun (P : Program) (f : FuncId) (fn : Func) (s : ChangeSpec) (c : OpenClaim) => (c.maps == (fn.params.toList ++ s.plain.varTypes P).any (P.mapsRec ·))) Tryz.pinned.checked.prog 9 Tryz.f9 Rows.focusModesSpec Rows.focusModesRow = true := by kernel_rfl
theorem focusModes_j14 : (fun (P : Program) (f : FuncId) (fn : Func) (s : ChangeSpec) (c : OpenClaim) => (c.ifaces == (fn.params.toList ++ s.plain.varTypes P).any (P.ifacesRec ·))) Tryz.pinned.checked.prog 9 Tryz.f9 Rows.focusModesSpec Rows.focusModesRow = true := by kernel_rfl
theorem focusModes_j15 : (fun (P : Program) (f : FuncId) (fn : Func) (s : ChangeSpec) (c : OpenClaim) => (c.mapsOut == P.mapsAmong fn.resultTypes.toList)) Tryz.pinned.checked.prog 9 Tryz.f9 Rows.focusModesSpec Rows.focusModesRow = true := by kernel_rfl
theorem focusModes_j16 : (fun (P : Program) (f : FuncId) (fn : Func) (s : ChangeSpec) (c : OpenClaim) => (c.loops == (fn.params.toList ++ s.plain.varTypes P).any (P.loopsFrom ·))) Tryz.pinned.checked.prog 9 Tryz.f9 Rows.focusModesSpec Rows.focusModesRow = true := by kernel_rfl
theorem focusModes_j17 : (fun (P : Program) (f : FuncId) (fn : Func) (s : ChangeSpec) (c : OpenClaim) => (c.wideKeys == (fn.params.toList ++ s.plain.varTypes P ++ fn.resultTypes.toList).any (P.wideKeysFrom ·))) Tryz.pinned.checked.prog 9 Tryz.f9 Rows.focusModesSpec Rows.focusModesRow = true := by kernel_rfl
theorem focusModes_j18 : (fun (P : Program) (f : FuncId) (fn : Func) (s : ChangeSpec) (c : OpenClaim) => s.vars.all (P.varReadable ·)) Tryz.pinned.checked.prog 9 Tryz.f9 Rows.focusModesSpec Rows.focusModesRow = true := by kernel_rfl
theorem focusModes_j19 : (fun (P : Program) (f : FuncId) (fn : Func) (s : ChangeSpec) (c : OpenClaim) => fn.resultTypes.all (fun t => P.readableRec t && decide (t < P.types.size))) Tryz.pinned.checked.prog 9 Tryz.f9 Rows.focusModesSpec Rows.focusModesRow = true := by kernel_rfl
theorem focusModes_j20 : (fun (P : Program) (f : FuncId) (fn : Func) (s : ChangeSpec) (c : OpenClaim) => (c.ifacesOut == fn.resultTypes.toList.any (P.ifacesRec ·))) Tryz.pinned.checked.prog 9 Tryz.f9 Rows.focusModesSpec Rows.focusModesRow = true := by kernel_rfl
theorem focusModes_j21 : (fun (P : Program) (f : FuncId) (fn : Func) (s : ChangeSpec) (c : OpenClaim) => (c.loopsOut == fn.resultTypes.toList.any (P.loopsFrom ·))) Tryz.pinned.checked.prog 9 Tryz.f9 Rows.focusModesSpec Rows.focusModesRow = true := by kernel_rfl
theorem focusModes_j22 : (fun (P : Program) (f : FuncId) (fn : Func) (s : ChangeSpec) (c : OpenClaim) => (c.plainKeys == P.plainKeys)) Tryz.pinned.checked.prog 9 Tryz.f9 Rows.focusModesSpec Rows.focusModesRow = true := by show (Rows.focusModesRow.plainKeys == Tryz.pinned.checked.prog.plainKeys) = true; rw [jl_plainKeys]; rfl
theorem focusModes_j23 : (fun (P : Program) (f : FuncId) (fn : Func) (s : ChangeSpec) (c : OpenClaim) => c.shortTexts.isNone) Tryz.pinned.checked.prog 9 Tryz.f9 Rows.focusModesSpec Rows.focusModesRow = true := by kernel_rfl
theorem focusModes_j26 : (fun (P : Program) (f : FuncId) (fn : Func) (s : ChangeSpec) (c : OpenClaim) => (c.lifted == P.liftsFinal)) Tryz.pinned.checked.prog 9 Tryz.f9 Rows.focusModesSpec Rows.focusModesRow = true := by show (Rows.focusModesRow.lifted == Tryz.pinned.checked.prog.liftsFinal) = true; rw [jl_liftsFinal]; rfl
theorem focusModes_j27 : (fun (P : Program) (f : FuncId) (fn : Func) (s : ChangeSpec) (c : OpenClaim) => (P.make == some c.make)) Tryz.pinned.checked.prog 9 Tryz.f9 Rows.focusModesSpec Rows.focusModesRow = true := by show (Tryz.pinned.checked.prog.make == some Rows.focusModesRow.make) = true; rw [jl_make]; rfl
theorem focusModes_j28 : Rows.focusModesRow.kinds = [] := by kernel_rfl
theorem focusModes_jd : Rows.focusModesRow.domain.isEmpty = true := by kernel_rfl
theorem focusModes_j29 : (fun (P : Program) (f : FuncId) (fn : Func) (s : ChangeSpec) (c : OpenClaim) => (c.pinned == c.pinnedBy)) Tryz.pinned.checked.prog 9 Tryz.f9 Rows.focusModesSpec Rows.focusModesRow = true := by kernel_rfl
theorem focusModes_j30 : (fun (P : Program) (f : FuncId) (fn : Func) (s : ChangeSpec) (c : OpenClaim) => (c.veiled == (fn.params.toList ++ s.plain.varTypes P ++ fn.resultTypes.toList).any (P.veiledRec ·))) Tryz.pinned.checked.prog 9 Tryz.f9 Rows.focusModesSpec Rows.focusModesRow = true := by kernel_rfl
theorem focusModes_j31 : (fun (P : Program) (f : FuncId) (fn : Func) (s : ChangeSpec) (c : OpenClaim) => c.veiledFits P fn.params.toList (fn.params.toList ++ s.plain.varTypes P ++ fn.resultTypes.toList)) Tryz.pinned.checked.prog 9 Tryz.f9 Rows.focusModesSpec Rows.focusModesRow = true := by kernel_rfl
theorem focusModes_joined : joinedFacts Tryz.pinned.checked.prog 9 Tryz.f9 Rows.focusModesSpec Rows.focusModesRow = true :=
  joined_of focusModes_j0 jl_1 jl_2 focusModes_j3 focusModes_j4 focusModes_j5 jl_6 focusModes_j7 jl_8 focusModes_j9 focusModes_j10 focusModes_j11 focusModes_j12 focusModes_j13 focusModes_j14 focusModes_j15 focusModes_j16 focusModes_j17 focusModes_j18 focusModes_j19 focusModes_j20 focusModes_j21 focusModes_j22 focusModes_j23 jl_24 jl_25 focusModes_j26 focusModes_j27 focusModes_j28 focusModes_jd focusModes_j29 focusModes_j30 focusModes_j31
theorem focusModes_holds : Rows.FocusModesSaid :=
  OpenClaim.holds_of_wide_leaving 9 Tryz.f9 rfl rfl rfl rfl rfl rfl rfl ⟨rfl, rfl, rfl, rfl, rfl⟩ rfl rfl rfl rfl rfl (by kernel_rfl) Tryz.func9 focusModes_joined
    (of_decide_eq_true (by kernel_rfl)) (by unfold Func.isWrapper; first | (rw [if_pos (by decide +kernel)]; kernel_rfl) | (rw [if_neg (by decide +kernel)]; exact ⟨rfl, rfl⟩))
    (fun os started H enc _ => focusModes_left os started H enc)
end Go.Proofs.YtamaocfjknpadaaGreat
