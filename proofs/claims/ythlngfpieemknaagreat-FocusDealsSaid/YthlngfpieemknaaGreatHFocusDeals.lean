/- Whatever the count and the deal, FocusDeals returns true, and its arguments read behind the call as before. Conditions: none. -/
import Derived.Test.YthlngfpieemknaaGreatE15
import Derived.Test.YthlngfpieemknaaGreatAmC
import Derived.Test.YthlngfpieemknaaGreatRows
import Derived.Test.YthlngfpieemknaaGreatJL
import Derived.WalkKit
import Derived.ProofKit
import Derived.OpenShut
import Derived.ShutString
import Derived.ChangeOld
import Derived.Below
import Derived.Leaving
import Derived.Conc.Holds
namespace Go.Proofs.YthlngfpieemknaaGreat
open Go Go.ChangeShapes Go.WideShapes Go.ChangeAt Go.RowKit Am Am.M
open Go.ChangeMaps (open_string shut_string)
set_option linter.unusedVariables false
set_option linter.unusedSimpArgs false
theorem own : ownKnob Tryz.prog.godebug = none := by kernel_rfl
theorem laidOut : laidOutB Tryz.prog = true := by kernel_rfl
theorem rd3 {H : Type} {enc : TypeId × Value → H} {w : World} {base : Nat} {spare : Nat → Bool} {held : Bool} : Reads enc Tryz.prog w base spare held 3 (fun n : Int => [.v (.int .i64 n)]) (fun n => (Lit.int .i64 n).wf = true) := reads_int Tryz.underlying3
theorem rd88 {H : Type} {enc : TypeId × Value → H} {w : World} {base : Nat} {spare : Nat → Bool} {held : Bool} : Reads enc Tryz.prog w base spare held 88 (fun l : List (Int) => [.sl 1 (l.map (fun n : Int => [.v (.int .i64 n)]))]) (fun l => ∀ a ∈ l, (fun n => (Lit.int .i64 n).wf = true) a) := reads_slice Tryz.underlying88 (by kernel_rfl) (by decide) (fun _ => by first | rfl | simp) rd3
theorem rd63 {H : Type} {enc : TypeId × Value → H} {w : World} {base : Nat} {spare : Nat → Bool} {held : Bool} : Reads enc Tryz.prog w base spare held 63 (fun l : List (List (Int)) => [.sl 1 (l.map (fun l : List (Int) => [.sl 1 (l.map (fun n : Int => [.v (.int .i64 n)]))]))]) (fun l => ∀ a ∈ l, (fun l => ∀ a ∈ l, (fun n => (Lit.int .i64 n).wf = true) a) a) := reads_slice Tryz.underlying63 (by kernel_rfl) (by decide) (fun _ => by first | rfl | simp) rd88
set_option maxRecDepth 100000 in
theorem focusDeals_lifted (os : Os) (started : os.Started) (H : Type) (enc : TypeId × Value → H) :
    ReturnsInHanded {} Tryz.checked os 6 .any (Rows.focusDealsSpec.pre6 enc Tryz.prog Tryz.f6 Rows.focusDealsRow.domain false) (Rows.focusDealsSpec.post enc Tryz.prog Tryz.f6 false true false false) := by
  refine returnsInHanded_of_change (C := Tryz.checked) own started (by kernel_rfl) Tryz.func6
    (ChangeSpec.witness6 (enc := enc) (C := Tryz.checked) false ⟨#[], #[.int .i64 0, .slice none 0 0], []⟩ 8 (by kernel_rfl) (by kernel_rfl) (by kernel_rfl) (by kernel_rfl)) ?_
  intro W base args ds gs before hval0 hW hcnd _
  have hval : ∀ (j : Nat) t v, Tryz.f6.params[j]? = some t → args[j]? = some v → Value.okWide Tryz.prog W .any base t v := hval0
  have hW' := hW
  obtain ⟨p, q, hA0, hV, rfl, hfz, hnd⟩ := hW
  have hA : DataW.TrodAll enc Tryz.prog W 0 (fun _ => true) true Tryz.f6.params.toList args.toList ds p := hA0
  rw [Tryz.params6] at hA hval
  obtain ⟨v0, vs0, d0, ds0, p0, q0, hargs, rfl, rfl, h0, r0⟩ := trodAll_cons hA
  obtain ⟨v1, vs1, d1, ds1, p1, q1, rfl, rfl, rfl, h1, r1⟩ := trodAll_cons r0
  obtain ⟨rfl, rfl, rfl⟩ := trodAll_nil r1
  obtain rfl : args = #[v0, v1] := by cases args; simp_all
  obtain ⟨rfl, rfl⟩ := trodVars_none hV
  have lt0 : ∀ x ∈ p0, x.block < W.heap.size := by obtain ⟨m, hm⟩ := h0; exact DataW.trod_lt m _ _ _ hm
  obtain ⟨u0, rfl, -⟩ := open_int Tryz.underlying3 (hval 0 3 v0 rfl rfl) h0
  obtain ⟨l0, g0, e0⟩ := arg_one h0 rd3 rfl
  have lt1 : ∀ x ∈ p1, x.block < W.heap.size := by obtain ⟨m, hm⟩ := h1; exact DataW.trod_lt m _ _ _ hm
  obtain ⟨b1, len1, cap1, rfl⟩ := okWide_slice Tryz.underlying63 (hval 1 63 v1 rfl rfl)
  obtain ⟨l1, g1, e1⟩ := arg_one h1 rd63 rfl
  clear hA0 hval0
  refine ((focusDeals_p l0 l1) W okAll [_, _] ⟨e0, e1, trivial⟩).mono fun e W' ⟨v, he, bel, hv⟩ => ?_
  obtain rfl := Rep.v_eq hv
  subst he
  exact ⟨_, rfl, _, _, _, [], _, [], hW', trodAll_mk1 (shut_bool Tryz.underlying4 _), (trodAll_cons_mk (Below.trod laidOut (by kernel_rfl) (of_decide_eq_true (by kernel_rfl)) h0 bel lt0) (trodAll_cons_mk (Below.trod laidOut (by kernel_rfl) (of_decide_eq_true (by kernel_rfl)) h1 bel lt1) trodAll_mk0)), rfl, bel.frame _, fun h => by cases h⟩
theorem focusDeals_left (os : Os) (started : os.Started) (H : Type) (enc : TypeId × Value → H) :
    ReturnsInLeavingWide {} Tryz.checked os 6 .any (Rows.focusDealsSpec.pre6 enc Tryz.prog Tryz.f6 Rows.focusDealsRow.domain false) (Rows.focusDealsSpec.post enc Tryz.prog Tryz.f6 false true false false) :=
  leaving_of_handed (focusDeals_lifted os started H enc)
theorem focusDeals_j0 : (fun (P : Program) (f : FuncId) (fn : Func) (s : ChangeSpec) (c : OpenClaim) => c.wf (OpenSpec.ofChange s)) Tryz.pinned.checked.prog 6 Tryz.f6 Rows.focusDealsSpec Rows.focusDealsRow = true := by kernel_rfl
theorem focusDeals_j3 : (fun (P : Program) (f : FuncId) (fn : Func) (s : ChangeSpec) (c : OpenClaim) => fn.params.all (P.readableRec ·)) Tryz.pinned.checked.prog 6 Tryz.f6 Rows.focusDealsSpec Rows.focusDealsRow = true := by kernel_rfl
theorem focusDeals_j4 : (fun (P : Program) (f : FuncId) (fn : Func) (s : ChangeSpec) (c : OpenClaim) => namedTie P c.named s.vars) Tryz.pinned.checked.prog 6 Tryz.f6 Rows.focusDealsSpec Rows.focusDealsRow = true := by kernel_rfl
theorem focusDeals_j5 : (fun (P : Program) (f : FuncId) (fn : Func) (s : ChangeSpec) (c : OpenClaim) => (c.stops == [])) Tryz.pinned.checked.prog 6 Tryz.f6 Rows.focusDealsSpec Rows.focusDealsRow = true := by kernel_rfl
theorem focusDeals_j7 : (fun (P : Program) (f : FuncId) (fn : Func) (s : ChangeSpec) (c : OpenClaim) => (c.knobs == [])) Tryz.pinned.checked.prog 6 Tryz.f6 Rows.focusDealsSpec Rows.focusDealsRow = true := by kernel_rfl
theorem focusDeals_j9 : (fun (P : Program) (f : FuncId) (fn : Func) (s : ChangeSpec) (c : OpenClaim) => (c.inPlace == P.inPlace f)) Tryz.pinned.checked.prog 6 Tryz.f6 Rows.focusDealsSpec Rows.focusDealsRow = true := by kernel_rfl
theorem focusDeals_j10 : (fun (P : Program) (f : FuncId) (fn : Func) (s : ChangeSpec) (c : OpenClaim) => (c.unfollowed == P.unfollowed f)) Tryz.pinned.checked.prog 6 Tryz.f6 Rows.focusDealsSpec Rows.focusDealsRow = true := by kernel_rfl
theorem focusDeals_j11 : (fun (P : Program) (f : FuncId) (fn : Func) (s : ChangeSpec) (c : OpenClaim) => (c.recurses == P.recurses f)) Tryz.pinned.checked.prog 6 Tryz.f6 Rows.focusDealsSpec Rows.focusDealsRow = true := by kernel_rfl
theorem focusDeals_j12 : (fun (P : Program) (f : FuncId) (fn : Func) (s : ChangeSpec) (c : OpenClaim) => (c.named == P.varsNamed f)) Tryz.pinned.checked.prog 6 Tryz.f6 Rows.focusDealsSpec Rows.focusDealsRow = true := by kernel_rfl
theorem focusDeals_j13 : (fun (P : Program) (f : FuncId) (fn : Func) (s : ChangeSpec) (c : OpenClaim) => (c.maps == (fn.params.toList ++ s.plain.varTypes P).any (P.mapsRec ·))) Tryz.pinned.checked.prog 6 Tryz.f6 Rows.focusDealsSpec Rows.focusDealsRow = true := by kernel_rfl
theorem focusDeals_j14 : (fun (P : Program) (f : FuncId) (fn : Func) (s : ChangeSpec) (c : OpenClaim) => (c.ifaces == (fn.params.toList ++ s.plain.varTypes P).any (P.ifacesRec ·))) Tryz.pinned.checked.prog 6 Tryz.f6 Rows.focusDealsSpec Rows.focusDealsRow = true := by kernel_rfl
theorem focusDeals_j15 : (fun (P : Program) (f : FuncId) (fn : Func) (s : ChangeSpec) (c : OpenClaim) => (c.mapsOut == P.mapsAmong fn.resultTypes.toList)) Tryz.pinned.checked.prog 6 Tryz.f6 Rows.focusDealsSpec Rows.focusDealsRow = true := by kernel_rfl
theorem focusDeals_j16 : (fun (P : Program) (f : FuncId) (fn : Func) (s : ChangeSpec) (c : OpenClaim) => (c.loops == (fn.params.toList ++ s.plain.varTypes P).any (P.loopsFrom ·))) Tryz.pinned.checked.prog 6 Tryz.f6 Rows.focusDealsSpec Rows.focusDealsRow = true := by kernel_rfl
theorem focusDeals_j17 : (fun (P : Program) (f : FuncId) (fn : Func) (s : ChangeSpec) (c : OpenClaim) => (c.wideKeys == (fn.params.toList ++ s.plain.varTypes P ++ fn.resultTypes.toList).any (P.wideKeysFrom ·))) Tryz.pinned.checked.prog 6 Tryz.f6 Rows.focusDealsSpec Rows.focusDealsRow = true := by kernel_rfl
theorem focusDeals_j18 : (fun (P : Program) (f : FuncId) (fn : Func) (s : ChangeSpec) (c : OpenClaim) => s.vars.all (P.varReadable ·)) Tryz.pinned.checked.prog 6 Tryz.f6 Rows.focusDealsSpec Rows.focusDealsRow = true := by kernel_rfl
theorem focusDeals_j19 : (fun (P : Program) (f : FuncId) (fn : Func) (s : ChangeSpec) (c : OpenClaim) => fn.resultTypes.all (fun t => P.readableRec t && decide (t < P.types.size))) Tryz.pinned.checked.prog 6 Tryz.f6 Rows.focusDealsSpec Rows.focusDealsRow = true := by kernel_rfl
theorem focusDeals_j20 : (fun (P : Program) (f : FuncId) (fn : Func) (s : ChangeSpec) (c : OpenClaim) => (c.ifacesOut == fn.resultTypes.toList.any (P.ifacesRec ·))) Tryz.pinned.checked.prog 6 Tryz.f6 Rows.focusDealsSpec Rows.focusDealsRow = true := by kernel_rfl
theorem focusDeals_j21 : (fun (P : Program) (f : FuncId) (fn : Func) (s : ChangeSpec) (c : OpenClaim) => (c.loopsOut == fn.resultTypes.toList.any (P.loopsFrom ·))) Tryz.pinned.checked.prog 6 Tryz.f6 Rows.focusDealsSpec Rows.focusDealsRow = true := by kernel_rfl
theorem focusDeals_j22 : (fun (P : Program) (f : FuncId) (fn : Func) (s : ChangeSpec) (c : OpenClaim) => (c.plainKeys == P.plainKeys)) Tryz.pinned.checked.prog 6 Tryz.f6 Rows.focusDealsSpec Rows.focusDealsRow = true := by show (Rows.focusDealsRow.plainKeys == Tryz.pinned.checked.prog.plainKeys) = true; rw [jl_plainKeys]; rfl
theorem focusDeals_j23 : (fun (P : Program) (f : FuncId) (fn : Func) (s : ChangeSpec) (c : OpenClaim) => c.shortTexts.isNone) Tryz.pinned.checked.prog 6 Tryz.f6 Rows.focusDealsSpec Rows.focusDealsRow = true := by kernel_rfl
theorem focusDeals_j26 : (fun (P : Program) (f : FuncId) (fn : Func) (s : ChangeSpec) (c : OpenClaim) => (c.lifted == P.liftsFinal)) Tryz.pinned.checked.prog 6 Tryz.f6 Rows.focusDealsSpec Rows.focusDealsRow = true := by show (Rows.focusDealsRow.lifted == Tryz.pinned.checked.prog.liftsFinal) = true; rw [jl_liftsFinal]; rfl
theorem focusDeals_j27 : (fun (P : Program) (f : FuncId) (fn : Func) (s : ChangeSpec) (c : OpenClaim) => (P.make == some c.make)) Tryz.pinned.checked.prog 6 Tryz.f6 Rows.focusDealsSpec Rows.focusDealsRow = true := by show (Tryz.pinned.checked.prog.make == some Rows.focusDealsRow.make) = true; rw [jl_make]; rfl
theorem focusDeals_j28 : Rows.focusDealsRow.kinds = [] := by kernel_rfl
theorem focusDeals_jd : Rows.focusDealsRow.domain.isEmpty = true := by kernel_rfl
theorem focusDeals_j29 : (fun (P : Program) (f : FuncId) (fn : Func) (s : ChangeSpec) (c : OpenClaim) => (c.pinned == c.pinnedBy)) Tryz.pinned.checked.prog 6 Tryz.f6 Rows.focusDealsSpec Rows.focusDealsRow = true := by kernel_rfl
theorem focusDeals_j30 : (fun (P : Program) (f : FuncId) (fn : Func) (s : ChangeSpec) (c : OpenClaim) => (c.veiled == (fn.params.toList ++ s.plain.varTypes P ++ fn.resultTypes.toList).any (P.veiledRec ·))) Tryz.pinned.checked.prog 6 Tryz.f6 Rows.focusDealsSpec Rows.focusDealsRow = true := by kernel_rfl
theorem focusDeals_j31 : (fun (P : Program) (f : FuncId) (fn : Func) (s : ChangeSpec) (c : OpenClaim) => c.veiledFits P fn.params.toList (fn.params.toList ++ s.plain.varTypes P ++ fn.resultTypes.toList)) Tryz.pinned.checked.prog 6 Tryz.f6 Rows.focusDealsSpec Rows.focusDealsRow = true := by kernel_rfl
theorem focusDeals_joined : joinedFacts Tryz.pinned.checked.prog 6 Tryz.f6 Rows.focusDealsSpec Rows.focusDealsRow = true :=
  joined_of focusDeals_j0 jl_1 jl_2 focusDeals_j3 focusDeals_j4 focusDeals_j5 jl_6 focusDeals_j7 jl_8 focusDeals_j9 focusDeals_j10 focusDeals_j11 focusDeals_j12 focusDeals_j13 focusDeals_j14 focusDeals_j15 focusDeals_j16 focusDeals_j17 focusDeals_j18 focusDeals_j19 focusDeals_j20 focusDeals_j21 focusDeals_j22 focusDeals_j23 jl_24 jl_25 focusDeals_j26 focusDeals_j27 focusDeals_j28 focusDeals_jd focusDeals_j29 focusDeals_j30 focusDeals_j31
/-- The statement. -/
theorem focusDeals_holds : Rows.FocusDealsSaid :=
  OpenClaim.holds_of_wide_leaving 6 Tryz.f6 rfl rfl rfl rfl rfl rfl rfl ⟨rfl, rfl, rfl, rfl, rfl⟩ rfl rfl rfl rfl rfl (by kernel_rfl) Tryz.func6 focusDeals_joined
    (of_decide_eq_true (by kernel_rfl)) (by unfold Func.isWrapper; first | (rw [if_pos (by decide +kernel)]; kernel_rfl) | (rw [if_neg (by decide +kernel)]; exact ⟨rfl, rfl⟩))
    (fun os started H enc _ => focusDeals_left os started H enc)
end Go.Proofs.YthlngfpieemknaaGreat
