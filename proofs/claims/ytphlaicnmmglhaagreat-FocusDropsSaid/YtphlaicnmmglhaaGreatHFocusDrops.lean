/- Whatever the grid, the powers and the drop, FocusDrops returns true, and its arguments read behind the call as before. Conditions: none. -/
import Derived.Test.YtphlaicnmmglhaaGreatE16
import Derived.Test.YtphlaicnmmglhaaGreatAmC
import Derived.Test.YtphlaicnmmglhaaGreatRows
import Derived.Test.YtphlaicnmmglhaaGreatJL
import Derived.WalkKit
import Derived.ProofKit
import Derived.OpenShut
import Derived.ShutString
import Derived.ChangeOld
import Derived.Below
import Derived.Leaving
import Derived.Conc.Holds
namespace Go.Proofs.YtphlaicnmmglhaaGreat
open Go Go.ChangeShapes Go.WideShapes Go.ChangeAt Go.RowKit Am Am.M
open Go.ChangeMaps (open_string shut_string)
set_option linter.unusedVariables false
set_option linter.unusedSimpArgs false
theorem own : ownKnob Tryz.prog.godebug = none := by kernel_rfl
theorem laidOut : laidOutB Tryz.prog = true := by kernel_rfl
theorem rd3 {H : Type} {enc : TypeId × Value → H} {w : World} {base : Nat} {spare : Nat → Bool} {held : Bool} : Reads enc Tryz.prog w base spare held 3 (fun n : Int => [.v (.int .i64 n)]) (fun n => (Lit.int .i64 n).wf = true) := reads_int Tryz.underlying3
theorem rd33 {H : Type} {enc : TypeId × Value → H} {w : World} {base : Nat} {spare : Nat → Bool} {held : Bool} : Reads enc Tryz.prog w base spare held 33 shC (fun _ => True) :=
  (reads_struct (ts := [(3, 1), (3, 1)]) (by kernel_rfl) (readsF_cons rd3 (readsF_cons rd3 readsF_nil))).map (fun p => (p.1, p.2.1)) (fun a h => ⟨by first | rfl | simp [D.cells], trivial⟩)
theorem rd35 {H : Type} {enc : TypeId × Value → H} {w : World} {base : Nat} {spare : Nat → Bool} {held : Bool} : Reads enc Tryz.prog w base spare held 35 grdC (fun _ => True) :=
  (reads_struct (ts := [(33, 2), (3, 1), (3, 1), (3, 1)]) (by kernel_rfl) (readsF_cons rd33 (readsF_cons rd3 (readsF_cons rd3 (readsF_cons rd3 readsF_nil))))).map (fun p => ⟨p.1.1, p.1.2, p.2.1, p.2.2.1, p.2.2.2.1⟩) (fun a h => ⟨by first | rfl | simp [D.cells], trivial⟩)
theorem rd77 {H : Type} {enc : TypeId × Value → H} {w : World} {base : Nat} {spare : Nat → Bool} {held : Bool} : Reads enc Tryz.prog w base spare held 77 (fun l : List (Int) => [.sl 1 (l.map (fun n : Int => [.v (.int .i64 n)]))]) (fun l => ∀ a ∈ l, (fun n => (Lit.int .i64 n).wf = true) a) := reads_slice Tryz.underlying77 (by kernel_rfl) (by decide) (fun _ => by first | rfl | simp) rd3
theorem rd4 {H : Type} {enc : TypeId × Value → H} {w : World} {base : Nat} {spare : Nat → Bool} {held : Bool} : Reads enc Tryz.prog w base spare held 4 (fun b : Bool => [.v (.bool b)]) (fun _ => True) := reads_bool Tryz.underlying4
theorem rd79 {H : Type} {enc : TypeId × Value → H} {w : World} {base : Nat} {spare : Nat → Bool} {held : Bool} : Reads enc Tryz.prog w base spare held 79 drpC (fun _ => True) :=
  (reads_struct (ts := [(3, 1), (4, 1), (3, 1), (3, 1)]) (by kernel_rfl) (readsF_cons rd3 (readsF_cons rd4 (readsF_cons rd3 (readsF_cons rd3 readsF_nil))))).map (fun p => ⟨p.1, p.2.1, p.2.2.1, p.2.2.2.1⟩) (fun a h => ⟨by first | rfl | simp [D.cells], trivial⟩)
set_option maxRecDepth 100000 in
theorem focusDrops_lifted (os : Os) (started : os.Started) (H : Type) (enc : TypeId × Value → H) :
    ReturnsInHanded {} Tryz.checked os 8 .any (Rows.focusDropsSpec.pre6 enc Tryz.prog Tryz.f8 Rows.focusDropsRow.domain false) (Rows.focusDropsSpec.post enc Tryz.prog Tryz.f8 false true false false) := by
  refine returnsInHanded_of_change (C := Tryz.checked) own started (by kernel_rfl) Tryz.func8
    (ChangeSpec.witness6 (enc := enc) (C := Tryz.checked) false ⟨#[], #[.agg #[.int .i64 0, .int .i64 0, .int .i64 0, .int .i64 0, .int .i64 0], .slice none 0 0, .agg #[.int .i64 0, .bool false, .int .i64 0, .int .i64 0]], []⟩ 8 (by kernel_rfl) (by kernel_rfl) (by kernel_rfl) (by kernel_rfl)) ?_
  intro W base args ds gs before hval0 hW hcnd _
  have hval : ∀ (j : Nat) t v, Tryz.f8.params[j]? = some t → args[j]? = some v → Value.okWide Tryz.prog W .any base t v := hval0
  have hW' := hW
  obtain ⟨p, q, hA0, hV, rfl, hfz, hnd⟩ := hW
  have hA : DataW.TrodAll enc Tryz.prog W 0 (fun _ => true) true Tryz.f8.params.toList args.toList ds p := hA0
  rw [Tryz.params8] at hA hval
  obtain ⟨v0, vs0, d0, ds0, p0, q0, hargs, rfl, rfl, h0, r0⟩ := trodAll_cons hA
  obtain ⟨v1, vs1, d1, ds1, p1, q1, rfl, rfl, rfl, h1, r1⟩ := trodAll_cons r0
  obtain ⟨v2, vs2, d2, ds2, p2, q2, rfl, rfl, rfl, h2, r2⟩ := trodAll_cons r1
  obtain ⟨rfl, rfl, rfl⟩ := trodAll_nil r2
  obtain rfl : args = #[v0, v1, v2] := by cases args; simp_all
  obtain ⟨rfl, rfl⟩ := trodVars_none hV
  have lt0 : ∀ x ∈ p0, x.block < W.heap.size := by obtain ⟨m, hm⟩ := h0; exact DataW.trod_lt m _ _ _ hm
  obtain ⟨cs0, rfl, -⟩ := okWide_struct Tryz.underlying35 (hval 0 35 v0 rfl rfl)
  obtain ⟨l0, g0, e0⟩ := arg_agg h0 rd35
  have lt1 : ∀ x ∈ p1, x.block < W.heap.size := by obtain ⟨m, hm⟩ := h1; exact DataW.trod_lt m _ _ _ hm
  obtain ⟨b1, len1, cap1, rfl⟩ := okWide_slice Tryz.underlying77 (hval 1 77 v1 rfl rfl)
  obtain ⟨l1, g1, e1⟩ := arg_one h1 rd77 rfl
  have lt2 : ∀ x ∈ p2, x.block < W.heap.size := by obtain ⟨m, hm⟩ := h2; exact DataW.trod_lt m _ _ _ hm
  obtain ⟨cs2, rfl, -⟩ := okWide_struct Tryz.underlying79 (hval 2 79 v2 rfl rfl)
  obtain ⟨l2, g2, e2⟩ := arg_agg h2 rd79
  clear hA0 hval0
  refine ((focusDrops_p l0 l1 l2) W okAll [_, _, _] ⟨e0, e1, e2, trivial⟩).mono fun e W' ⟨v, he, bel, hv⟩ => ?_
  obtain rfl := Rep.v_eq hv
  subst he
  exact ⟨_, rfl, _, _, _, [], _, [], hW', trodAll_mk1 (shut_bool Tryz.underlying4 _), (trodAll_cons_mk (Below.trod laidOut (by kernel_rfl) (of_decide_eq_true (by kernel_rfl)) h0 bel lt0) (trodAll_cons_mk (Below.trod laidOut (by kernel_rfl) (of_decide_eq_true (by kernel_rfl)) h1 bel lt1) (trodAll_cons_mk (Below.trod laidOut (by kernel_rfl) (of_decide_eq_true (by kernel_rfl)) h2 bel lt2) trodAll_mk0))), rfl, bel.frame _, fun h => by cases h⟩
theorem focusDrops_left (os : Os) (started : os.Started) (H : Type) (enc : TypeId × Value → H) :
    ReturnsInLeavingWide {} Tryz.checked os 8 .any (Rows.focusDropsSpec.pre6 enc Tryz.prog Tryz.f8 Rows.focusDropsRow.domain false) (Rows.focusDropsSpec.post enc Tryz.prog Tryz.f8 false true false false) :=
  leaving_of_handed (focusDrops_lifted os started H enc)
theorem focusDrops_j0 : (fun (P : Program) (f : FuncId) (fn : Func) (s : ChangeSpec) (c : OpenClaim) => c.wf (OpenSpec.ofChange s)) Tryz.pinned.checked.prog 8 Tryz.f8 Rows.focusDropsSpec Rows.focusDropsRow = true := by kernel_rfl
theorem focusDrops_j3 : (fun (P : Program) (f : FuncId) (fn : Func) (s : ChangeSpec) (c : OpenClaim) => fn.params.all (P.readableRec ·)) Tryz.pinned.checked.prog 8 Tryz.f8 Rows.focusDropsSpec Rows.focusDropsRow = true := by kernel_rfl
theorem focusDrops_j4 : (fun (P : Program) (f : FuncId) (fn : Func) (s : ChangeSpec) (c : OpenClaim) => namedTie P c.named s.vars) Tryz.pinned.checked.prog 8 Tryz.f8 Rows.focusDropsSpec Rows.focusDropsRow = true := by kernel_rfl
theorem focusDrops_j5 : (fun (P : Program) (f : FuncId) (fn : Func) (s : ChangeSpec) (c : OpenClaim) => (c.stops == [])) Tryz.pinned.checked.prog 8 Tryz.f8 Rows.focusDropsSpec Rows.focusDropsRow = true := by kernel_rfl
theorem focusDrops_j7 : (fun (P : Program) (f : FuncId) (fn : Func) (s : ChangeSpec) (c : OpenClaim) => (c.knobs == [])) Tryz.pinned.checked.prog 8 Tryz.f8 Rows.focusDropsSpec Rows.focusDropsRow = true := by kernel_rfl
theorem focusDrops_j9 : (fun (P : Program) (f : FuncId) (fn : Func) (s : ChangeSpec) (c : OpenClaim) => (c.inPlace == P.inPlace f)) Tryz.pinned.checked.prog 8 Tryz.f8 Rows.focusDropsSpec Rows.focusDropsRow = true := by kernel_rfl
theorem focusDrops_j10 : (fun (P : Program) (f : FuncId) (fn : Func) (s : ChangeSpec) (c : OpenClaim) => (c.unfollowed == P.unfollowed f)) Tryz.pinned.checked.prog 8 Tryz.f8 Rows.focusDropsSpec Rows.focusDropsRow = true := by kernel_rfl
theorem focusDrops_j11 : (fun (P : Program) (f : FuncId) (fn : Func) (s : ChangeSpec) (c : OpenClaim) => (c.recurses == P.recurses f)) Tryz.pinned.checked.prog 8 Tryz.f8 Rows.focusDropsSpec Rows.focusDropsRow = true := by kernel_rfl
theorem focusDrops_j12 : (fun (P : Program) (f : FuncId) (fn : Func) (s : ChangeSpec) (c : OpenClaim) => (c.named == P.varsNamed f)) Tryz.pinned.checked.prog 8 Tryz.f8 Rows.focusDropsSpec Rows.focusDropsRow = true := by kernel_rfl
theorem focusDrops_j13 : (fun (P : Program) (f : FuncId) (fn : Func) (s : ChangeSpec) (c : OpenClaim) => (c.maps == (fn.params.toList ++ s.plain.varTypes P).any (P.mapsRec ·))) Tryz.pinned.checked.prog 8 Tryz.f8 Rows.focusDropsSpec Rows.focusDropsRow = true := by kernel_rfl
theorem focusDrops_j14 : (fun (P : Program) (f : FuncId) (fn : Func) (s : ChangeSpec) (c : OpenClaim) => (c.ifaces == (fn.params.toList ++ s.plain.varTypes P).any (P.ifacesRec ·))) Tryz.pinned.checked.prog 8 Tryz.f8 Rows.focusDropsSpec Rows.focusDropsRow = true := by kernel_rfl
theorem focusDrops_j15 : (fun (P : Program) (f : FuncId) (fn : Func) (s : ChangeSpec) (c : OpenClaim) => (c.mapsOut == P.mapsAmong fn.resultTypes.toList)) Tryz.pinned.checked.prog 8 Tryz.f8 Rows.focusDropsSpec Rows.focusDropsRow = true := by kernel_rfl
theorem focusDrops_j16 : (fun (P : Program) (f : FuncId) (fn : Func) (s : ChangeSpec) (c : OpenClaim) => (c.loops == (fn.params.toList ++ s.plain.varTypes P).any (P.loopsFrom ·))) Tryz.pinned.checked.prog 8 Tryz.f8 Rows.focusDropsSpec Rows.focusDropsRow = true := by kernel_rfl
theorem focusDrops_j17 : (fun (P : Program) (f : FuncId) (fn : Func) (s : ChangeSpec) (c : OpenClaim) => (c.wideKeys == (fn.params.toList ++ s.plain.varTypes P ++ fn.resultTypes.toList).any (P.wideKeysFrom ·))) Tryz.pinned.checked.prog 8 Tryz.f8 Rows.focusDropsSpec Rows.focusDropsRow = true := by kernel_rfl
theorem focusDrops_j18 : (fun (P : Program) (f : FuncId) (fn : Func) (s : ChangeSpec) (c : OpenClaim) => s.vars.all (P.varReadable ·)) Tryz.pinned.checked.prog 8 Tryz.f8 Rows.focusDropsSpec Rows.focusDropsRow = true := by kernel_rfl
theorem focusDrops_j19 : (fun (P : Program) (f : FuncId) (fn : Func) (s : ChangeSpec) (c : OpenClaim) => fn.resultTypes.all (fun t => P.readableRec t && decide (t < P.types.size))) Tryz.pinned.checked.prog 8 Tryz.f8 Rows.focusDropsSpec Rows.focusDropsRow = true := by kernel_rfl
theorem focusDrops_j20 : (fun (P : Program) (f : FuncId) (fn : Func) (s : ChangeSpec) (c : OpenClaim) => (c.ifacesOut == fn.resultTypes.toList.any (P.ifacesRec ·))) Tryz.pinned.checked.prog 8 Tryz.f8 Rows.focusDropsSpec Rows.focusDropsRow = true := by kernel_rfl
theorem focusDrops_j21 : (fun (P : Program) (f : FuncId) (fn : Func) (s : ChangeSpec) (c : OpenClaim) => (c.loopsOut == fn.resultTypes.toList.any (P.loopsFrom ·))) Tryz.pinned.checked.prog 8 Tryz.f8 Rows.focusDropsSpec Rows.focusDropsRow = true := by kernel_rfl
theorem focusDrops_j22 : (fun (P : Program) (f : FuncId) (fn : Func) (s : ChangeSpec) (c : OpenClaim) => (c.plainKeys == P.plainKeys)) Tryz.pinned.checked.prog 8 Tryz.f8 Rows.focusDropsSpec Rows.focusDropsRow = true := by show (Rows.focusDropsRow.plainKeys == Tryz.pinned.checked.prog.plainKeys) = true; rw [jl_plainKeys]; rfl
theorem focusDrops_j23 : (fun (P : Program) (f : FuncId) (fn : Func) (s : ChangeSpec) (c : OpenClaim) => c.shortTexts.isNone) Tryz.pinned.checked.prog 8 Tryz.f8 Rows.focusDropsSpec Rows.focusDropsRow = true := by kernel_rfl
theorem focusDrops_j26 : (fun (P : Program) (f : FuncId) (fn : Func) (s : ChangeSpec) (c : OpenClaim) => (c.lifted == P.liftsFinal)) Tryz.pinned.checked.prog 8 Tryz.f8 Rows.focusDropsSpec Rows.focusDropsRow = true := by show (Rows.focusDropsRow.lifted == Tryz.pinned.checked.prog.liftsFinal) = true; rw [jl_liftsFinal]; rfl
theorem focusDrops_j27 : (fun (P : Program) (f : FuncId) (fn : Func) (s : ChangeSpec) (c : OpenClaim) => (P.make == some c.make)) Tryz.pinned.checked.prog 8 Tryz.f8 Rows.focusDropsSpec Rows.focusDropsRow = true := by show (Tryz.pinned.checked.prog.make == some Rows.focusDropsRow.make) = true; rw [jl_make]; rfl
theorem focusDrops_j28 : Rows.focusDropsRow.kinds = [] := by kernel_rfl
theorem focusDrops_jd : Rows.focusDropsRow.domain.isEmpty = true := by kernel_rfl
theorem focusDrops_j29 : (fun (P : Program) (f : FuncId) (fn : Func) (s : ChangeSpec) (c : OpenClaim) => (c.pinned == c.pinnedBy)) Tryz.pinned.checked.prog 8 Tryz.f8 Rows.focusDropsSpec Rows.focusDropsRow = true := by kernel_rfl
theorem focusDrops_j30 : (fun (P : Program) (f : FuncId) (fn : Func) (s : ChangeSpec) (c : OpenClaim) => (c.veiled == (fn.params.toList ++ s.plain.varTypes P ++ fn.resultTypes.toList).any (P.veiledRec ·))) Tryz.pinned.checked.prog 8 Tryz.f8 Rows.focusDropsSpec Rows.focusDropsRow = true := by kernel_rfl
theorem focusDrops_j31 : (fun (P : Program) (f : FuncId) (fn : Func) (s : ChangeSpec) (c : OpenClaim) => c.veiledFits P fn.params.toList (fn.params.toList ++ s.plain.varTypes P ++ fn.resultTypes.toList)) Tryz.pinned.checked.prog 8 Tryz.f8 Rows.focusDropsSpec Rows.focusDropsRow = true := by kernel_rfl
theorem focusDrops_joined : joinedFacts Tryz.pinned.checked.prog 8 Tryz.f8 Rows.focusDropsSpec Rows.focusDropsRow = true :=
  joined_of focusDrops_j0 jl_1 jl_2 focusDrops_j3 focusDrops_j4 focusDrops_j5 jl_6 focusDrops_j7 jl_8 focusDrops_j9 focusDrops_j10 focusDrops_j11 focusDrops_j12 focusDrops_j13 focusDrops_j14 focusDrops_j15 focusDrops_j16 focusDrops_j17 focusDrops_j18 focusDrops_j19 focusDrops_j20 focusDrops_j21 focusDrops_j22 focusDrops_j23 jl_24 jl_25 focusDrops_j26 focusDrops_j27 focusDrops_j28 focusDrops_jd focusDrops_j29 focusDrops_j30 focusDrops_j31
/-- The statement. -/
theorem focusDrops_holds : Rows.FocusDropsSaid :=
  OpenClaim.holds_of_wide_leaving 8 Tryz.f8 rfl rfl rfl rfl rfl rfl rfl ⟨rfl, rfl, rfl, rfl, rfl⟩ rfl rfl rfl rfl rfl (by kernel_rfl) Tryz.func8 focusDrops_joined
    (of_decide_eq_true (by kernel_rfl)) (by unfold Func.isWrapper; first | (rw [if_pos (by decide +kernel)]; kernel_rfl) | (rw [if_neg (by decide +kernel)]; exact ⟨rfl, rfl⟩))
    (fun os started H enc _ => focusDrops_left os started H enc)
end Go.Proofs.YtphlaicnmmglhaaGreat
