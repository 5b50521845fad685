/- Whatever the raw parts, FocusMerges returns true, and its argument reads behind the call as before. Conditions: none. -/
import Derived.Test.YtphlaicnmmglhaaGreatJ4
import Derived.Test.YtphlaicnmmglhaaGreatAmC
import Derived.Test.YtphlaicnmmglhaaGreatRows
import Derived.Test.YtphlaicnmmglhaaGreatJL
import Derived.WalkKit
import Derived.ProofKit
import Derived.OpenShut
import Derived.ShutString
import Derived.ChangeOld
import Derived.Below
import Derived.Leaving
import Derived.Conc.Holds
namespace Go.Proofs.YtphlaicnmmglhaaGreat
open Go Go.ChangeShapes Go.WideShapes Go.ChangeAt Go.RowKit Am Am.M
open Go.ChangeMaps (open_string shut_string)
set_option linter.unusedVariables false
set_option linter.unusedSimpArgs false
theorem own : ownKnob Tryz.prog.godebug = none := by kernel_rfl
theorem laidOut : laidOutB Tryz.prog = true := by kernel_rfl
theorem rd167 {H : Type} {enc : TypeId × Value → H} {w : World} {base : Nat} {spare : Nat → Bool} {held : Bool} : Reads enc Tryz.prog w base spare held 167 (fun b : Nat => [.v (.float .f64 b)]) (fun b => (Lit.float .f64 b).wf = true) := reads_float Tryz.underlying167
theorem rd107 {H : Type} {enc : TypeId × Value → H} {w : World} {base : Nat} {spare : Nat → Bool} {held : Bool} : Reads enc Tryz.prog w base spare held 107 (fun l : List (Nat) => [.sl 1 (l.map (fun b : Nat => [.v (.float .f64 b)]))]) (fun l => ∀ a ∈ l, (fun b => (Lit.float .f64 b).wf = true) a) := reads_slice Tryz.underlying107 (by kernel_rfl) (by decide) (fun _ => by first | rfl | simp) rd167
theorem rd104 {H : Type} {enc : TypeId × Value → H} {w : World} {base : Nat} {spare : Nat → Bool} {held : Bool} : Reads enc Tryz.prog w base spare held 104 (fun l : List (List (Nat)) => [.sl 1 (l.map (fun l : List (Nat) => [.sl 1 (l.map (fun b : Nat => [.v (.float .f64 b)]))]))]) (fun l => ∀ a ∈ l, (fun l => ∀ a ∈ l, (fun b => (Lit.float .f64 b).wf = true) a) a) := reads_slice Tryz.underlying104 (by kernel_rfl) (by decide) (fun _ => by first | rfl | simp) rd107
set_option maxRecDepth 100000 in
theorem focusMerges_lifted (os : Os) (started : os.Started) (H : Type) (enc : TypeId × Value → H) :
    ReturnsInHanded {} Tryz.checked os 11 .any (Rows.focusMergesSpec.pre6 enc Tryz.prog Tryz.f11 Rows.focusMergesRow.domain false) (Rows.focusMergesSpec.post enc Tryz.prog Tryz.f11 false true false false) := by
  refine returnsInHanded_of_change (C := Tryz.checked) own started (by kernel_rfl) Tryz.func11
    (ChangeSpec.witness6 (enc := enc) (C := Tryz.checked) false ⟨#[], #[.slice none 0 0], []⟩ 8 (by kernel_rfl) (by kernel_rfl) (by kernel_rfl) (by kernel_rfl)) ?_
  intro W base args ds gs before hval0 hW hcnd _
  have hval : ∀ (j : Nat) t v, Tryz.f11.params[j]? = some t → args[j]? = some v → Value.okWide Tryz.prog W .any base t v := hval0
  have hW' := hW
  obtain ⟨p, q, hA0, hV, rfl, hfz, hnd⟩ := hW
  have hA : DataW.TrodAll enc Tryz.prog W 0 (fun _ => true) true Tryz.f11.params.toList args.toList ds p := hA0
  rw [Tryz.params11] at hA hval
  obtain ⟨v0, vs0, d0, ds0, p0, q0, hargs, rfl, rfl, h0, r0⟩ := trodAll_cons hA
  obtain ⟨rfl, rfl, rfl⟩ := trodAll_nil r0
  obtain rfl : args = #[v0] := by cases args; simp_all
  obtain ⟨rfl, rfl⟩ := trodVars_none hV
  have lt0 : ∀ x ∈ p0, x.block < W.heap.size := by obtain ⟨m, hm⟩ := h0; exact DataW.trod_lt m _ _ _ hm
  obtain ⟨b0, len0, cap0, rfl⟩ := okWide_slice Tryz.underlying104 (hval 0 104 v0 rfl rfl)
  obtain ⟨l0, g0, e0⟩ := arg_one h0 rd104 rfl
  clear hA0 hval0
  refine ((focusMerges_p l0) W okAll [_] ⟨e0, trivial⟩).mono fun e W' ⟨v, he, bel, hv⟩ => ?_
  obtain rfl := Rep.v_eq hv
  subst he
  exact ⟨_, rfl, _, _, _, [], _, [], hW', trodAll_mk1 (shut_bool Tryz.underlying4 _), (trodAll_cons_mk (Below.trod laidOut (by kernel_rfl) (of_decide_eq_true (by kernel_rfl)) h0 bel lt0) trodAll_mk0), rfl, bel.frame _, fun h => by cases h⟩
theorem focusMerges_left (os : Os) (started : os.Started) (H : Type) (enc : TypeId × Value → H) :
    ReturnsInLeavingWide {} Tryz.checked os 11 .any (Rows.focusMergesSpec.pre6 enc Tryz.prog Tryz.f11 Rows.focusMergesRow.domain false) (Rows.focusMergesSpec.post enc Tryz.prog Tryz.f11 false true false false) :=
  leaving_of_handed (focusMerges_lifted os started H enc)
theorem focusMerges_j0 : (fun (P : Program) (f : FuncId) (fn : Func) (s : ChangeSpec) (c : OpenClaim) => c.wf (OpenSpec.ofChange s)) Tryz.pinned.checked.prog 11 Tryz.f11 Rows.focusMergesSpec Rows.focusMergesRow = true := by kernel_rfl
theorem focusMerges_j3 : (fun (P : Program) (f : FuncId) (fn : Func) (s : ChangeSpec) (c : OpenClaim) => fn.params.all (P.readableRec ·)) Tryz.pinned.checked.prog 11 Tryz.f11 Rows.focusMergesSpec Rows.focusMergesRow = true := by kernel_rfl
theorem focusMerges_j4 : (fun (P : Program) (f : FuncId) (fn : Func) (s : ChangeSpec) (c : OpenClaim) => namedTie P c.named s.vars) Tryz.pinned.checked.prog 11 Tryz.f11 Rows.focusMergesSpec Rows.focusMergesRow = true := by kernel_rfl
theorem focusMerges_j5 : (fun (P : Program) (f : FuncId) (fn : Func) (s : ChangeSpec) (c : OpenClaim) => (c.stops == [])) Tryz.pinned.checked.prog 11 Tryz.f11 Rows.focusMergesSpec Rows.focusMergesRow = true := by kernel_rfl
theorem focusMerges_j7 : (fun (P : Program) (f : FuncId) (fn : Func) (s : ChangeSpec) (c : OpenClaim) => (c.knobs == [])) Tryz.pinned.checked.prog 11 Tryz.f11 Rows.focusMergesSpec Rows.focusMergesRow = true := by kernel_rfl
theorem focusMerges_j9 : (fun (P : Program) (f : FuncId) (fn : Func) (s : ChangeSpec) (c : OpenClaim) => (c.inPlace == P.inPlace f)) Tryz.pinned.checked.prog 11 Tryz.f11 Rows.focusMergesSpec Rows.focusMergesRow = true := by kernel_rfl
theorem focusMerges_j10 : (fun (P : Program) (f : FuncId) (fn : Func) (s : ChangeSpec) (c : OpenClaim) => (c.unfollowed == P.unfollowed f)) Tryz.pinned.checked.prog 11 Tryz.f11 Rows.focusMergesSpec Rows.focusMergesRow = true := by kernel_rfl
theorem focusMerges_j11 : (fun (P : Program) (f : FuncId) (fn : Func) (s : ChangeSpec) (c : OpenClaim) => (c.recurses == P.recurses f)) Tryz.pinned.checked.prog 11 Tryz.f11 Rows.focusMergesSpec Rows.focusMergesRow = true := by kernel_rfl
theorem focusMerges_j12 : (fun (P : Program) (f : FuncId) (fn : Func) (s : ChangeSpec) (c : OpenClaim) => (c.named == P.varsNamed f)) Tryz.pinned.checked.prog 11 Tryz.f11 Rows.focusMergesSpec Rows.focusMergesRow = true := by kernel_rfl
theorem focusMerges_j13 : (fun (P : Program) (f : FuncId) (fn : Func) (s : ChangeSpec) (c : OpenClaim) => (c.maps == (fn.params.toList ++ s.plain.varTypes P).any (P.mapsRec ·))) Tryz.pinned.checked.prog 11 Tryz.f11 Rows.focusMergesSpec Rows.focusMergesRow = true := by kernel_rfl
theorem focusMerges_j14 : (fun (P : Program) (f : FuncId) (fn : Func) (s : ChangeSpec) (c : OpenClaim) => (c.ifaces == (fn.params.toList ++ s.plain.varTypes P).any (P.ifacesRec ·))) Tryz.pinned.checked.prog 11 Tryz.f11 Rows.focusMergesSpec Rows.focusMergesRow = true := by kernel_rfl
theorem focusMerges_j15 : (fun (P : Program) (f : FuncId) (fn : Func) (s : ChangeSpec) (c : OpenClaim) => (c.mapsOut == P.mapsAmong fn.resultTypes.toList)) Tryz.pinned.checked.prog 11 Tryz.f11 Rows.focusMergesSpec Rows.focusMergesRow = true := by kernel_rfl
theorem focusMerges_j16 : (fun (P : Program) (f : FuncId) (fn : Func) (s : ChangeSpec) (c : OpenClaim) => (c.loops == (fn.params.toList ++ s.plain.varTypes P).any (P.loopsFrom ·))) Tryz.pinned.checked.prog 11 Tryz.f11 Rows.focusMergesSpec Rows.focusMergesRow = true := by kernel_rfl
theorem focusMerges_j17 : (fun (P : Program) (f : FuncId) (fn : Func) (s : ChangeSpec) (c : OpenClaim) => (c.wideKeys == (fn.params.toList ++ s.plain.varTypes P ++ fn.resultTypes.toList).any (P.wideKeysFrom ·))) Tryz.pinned.checked.prog 11 Tryz.f11 Rows.focusMergesSpec Rows.focusMergesRow = true := by kernel_rfl
theorem focusMerges_j18 : (fun (P : Program) (f : FuncId) (fn : Func) (s : ChangeSpec) (c : OpenClaim) => s.vars.all (P.varReadable ·)) Tryz.pinned.checked.prog 11 Tryz.f11 Rows.focusMergesSpec Rows.focusMergesRow = true := by kernel_rfl
theorem focusMerges_j19 : (fun (P : Program) (f : FuncId) (fn : Func) (s : ChangeSpec) (c : OpenClaim) => fn.resultTypes.all (fun t => P.readableRec t && decide (t < P.types.size))) Tryz.pinned.checked.prog 11 Tryz.f11 Rows.focusMergesSpec Rows.focusMergesRow = true := by kernel_rfl
theorem focusMerges_j20 : (fun (P : Program) (f : FuncId) (fn : Func) (s : ChangeSpec) (c : OpenClaim) => (c.ifacesOut == fn.resultTypes.toList.any (P.ifacesRec ·))) Tryz.pinned.checked.prog 11 Tryz.f11 Rows.focusMergesSpec Rows.focusMergesRow = true := by kernel_rfl
theorem focusMerges_j21 : (fun (P : Program) (f : FuncId) (fn : Func) (s : ChangeSpec) (c : OpenClaim) => (c.loopsOut == fn.resultTypes.toList.any (P.loopsFrom ·))) Tryz.pinned.checked.prog 11 Tryz.f11 Rows.focusMergesSpec Rows.focusMergesRow = true := by kernel_rfl
theorem focusMerges_j22 : (fun (P : Program) (f : FuncId) (fn : Func) (s : ChangeSpec) (c : OpenClaim) => (c.plainKeys == P.plainKeys)) Tryz.pinned.checked.prog 11 Tryz.f11 Rows.focusMergesSpec Rows.focusMergesRow = true := by show (Rows.focusMergesRow.plainKeys == Tryz.pinned.checked.prog.plainKeys) = true; rw [jl_plainKeys]; rfl
theorem focusMerges_j23 : (fun (P : Program) (f : FuncId) (fn : Func) (s : ChangeSpec) (c : OpenClaim) => c.shortTexts.isNone) Tryz.pinned.checked.prog 11 Tryz.f11 Rows.focusMergesSpec Rows.focusMergesRow = true := by kernel_rfl
theorem focusMerges_j26 : (fun (P : Program) (f : FuncId) (fn : Func) (s : ChangeSpec) (c : OpenClaim) => (c.lifted == P.liftsFinal)) Tryz.pinned.checked.prog 11 Tryz.f11 Rows.focusMergesSpec Rows.focusMergesRow = true := by show (Rows.focusMergesRow.lifted == Tryz.pinned.checked.prog.liftsFinal) = true; rw [jl_liftsFinal]; rfl
theorem focusMerges_j27 : (fun (P : Program) (f : FuncId) (fn : Func) (s : ChangeSpec) (c : OpenClaim) => (P.make == some c.make)) Tryz.pinned.checked.prog 11 Tryz.f11 Rows.focusMergesSpec Rows.focusMergesRow = true := by show (Tryz.pinned.checked.prog.make == some Rows.focusMergesRow.make) = true; rw [jl_make]; rfl
theorem focusMerges_j28 : Rows.focusMergesRow.kinds = [] := by kernel_rfl
theorem focusMerges_jd : Rows.focusMergesRow.domain.isEmpty = true := by kernel_rfl
theorem focusMerges_j29 : (fun (P : Program) (f : FuncId) (fn : Func) (s : ChangeSpec) (c : OpenClaim) => (c.pinned == c.pinnedBy)) Tryz.pinned.checked.prog 11 Tryz.f11 Rows.focusMergesSpec Rows.focusMergesRow = true := by kernel_rfl
theorem focusMerges_j30 : (fun (P : Program) (f : FuncId) (fn : Func) (s : ChangeSpec) (c : OpenClaim) => (c.veiled == (fn.params.toList ++ s.plain.varTypes P ++ fn.resultTypes.toList).any (P.veiledRec ·))) Tryz.pinned.checked.prog 11 Tryz.f11 Rows.focusMergesSpec Rows.focusMergesRow = true := by kernel_rfl
theorem focusMerges_j31 : (fun (P : Program) (f : FuncId) (fn : Func) (s : ChangeSpec) (c : OpenClaim) => c.veiledFits P fn.params.toList (fn.params.toList ++ s.plain.varTypes P ++ fn.resultTypes.toList)) Tryz.pinned.checked.prog 11 Tryz.f11 Rows.focusMergesSpec Rows.focusMergesRow = true := by kernel_rfl
theorem focusMerges_joined : joinedFacts Tryz.pinned.checked.prog 11 Tryz.f11 Rows.focusMergesSpec Rows.focusMergesRow = true :=
  joined_of focusMerges_j0 jl_1 jl_2 focusMerges_j3 focusMerges_j4 focusMerges_j5 jl_6 focusMerges_j7 jl_8 focusMerges_j9 focusMerges_j10 focusMerges_j11 focusMerges_j12 focusMerges_j13 focusMerges_j14 focusMerges_j15 focusMerges_j16 focusMerges_j17 focusMerges_j18 focusMerges_j19 focusMerges_j20 focusMerges_j21 focusMerges_j22 focusMerges_j23 jl_24 jl_25 focusMerges_j26 focusMerges_j27 focusMerges_j28 focusMerges_jd focusMerges_j29 focusMerges_j30 focusMerges_j31
theorem focusMerges_holds : Rows.FocusMergesSaid :=
  OpenClaim.holds_of_wide_leaving 11 Tryz.f11 rfl rfl rfl rfl rfl rfl rfl ⟨rfl, rfl, rfl, rfl, rfl⟩ rfl rfl rfl rfl rfl (by kernel_rfl) Tryz.func11 focusMerges_joined
    (of_decide_eq_true (by kernel_rfl)) (by unfold Func.isWrapper; first | (rw [if_pos (by decide +kernel)]; kernel_rfl) | (rw [if_neg (by decide +kernel)]; exact ⟨rfl, rfl⟩))
    (fun os started H enc _ => focusMerges_left os started H enc)
end Go.Proofs.YtphlaicnmmglhaaGreat
