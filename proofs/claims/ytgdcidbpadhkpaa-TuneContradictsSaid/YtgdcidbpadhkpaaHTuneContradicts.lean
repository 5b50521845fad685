/- Whatever the arcs, TuneContradicts returns true, and its arguments read behind the call as before. Conditions: none. -/
import Derived.Test.YtgdcidbpadhkpaaL11
import Derived.Test.YtgdcidbpadhkpaaAmC
import Derived.Test.YtgdcidbpadhkpaaRows
import Derived.WalkKit
import Derived.ProofKit
import Derived.OpenShut
import Derived.ShutString
import Derived.ChangeOld
import Derived.Below
namespace Go.Proofs.Ytgdcidbpadhkpaa
open Go Go.ChangeShapes Go.WideShapes Go.ChangeAt Go.RowKit Am Am.M
open Go.ChangeMaps (open_string shut_string)
set_option linter.unusedVariables false
set_option linter.unusedSimpArgs false
theorem own : ownKnob Try.prog.godebug = none := by kernel_rfl
theorem laidOut : laidOutB Try.prog = true := by kernel_rfl
theorem rd3 {H : Type} {enc : TypeId × Value → H} {w : World} {base : Nat} {spare : Nat → Bool} {held : Bool} : Reads enc Try.prog w base spare held 3 (fun n : Int => [.v (.int .i64 n)]) (fun n => (Lit.int .i64 n).wf = true) := reads_int Try.underlying3
theorem rd52 {H : Type} {enc : TypeId × Value → H} {w : World} {base : Nat} {spare : Nat → Bool} {held : Bool} : Reads enc Try.prog w base spare held 52 shC (fun _ => True) :=
  (reads_struct (ts := [(3, 1), (3, 1)]) (by kernel_rfl) (readsF_cons rd3 (readsF_cons rd3 readsF_nil))).map (fun p => (p.1, p.2.1)) (fun a h => ⟨by first | rfl | simp [D.cells], trivial⟩)
theorem rd105 {H : Type} {enc : TypeId × Value → H} {w : World} {base : Nat} {spare : Nat → Bool} {held : Bool} : Reads enc Try.prog w base spare held 105 arcC (fun _ => True) :=
  (reads_struct (ts := [(3, 1), (52, 2)]) (by kernel_rfl) (readsF_cons rd3 (readsF_cons rd52 readsF_nil))).map (fun p => ⟨p.1, p.2.1.1, p.2.1.2⟩) (fun a h => ⟨by first | rfl | simp [D.cells], trivial⟩)
theorem rd93 {H : Type} {enc : TypeId × Value → H} {w : World} {base : Nat} {spare : Nat → Bool} {held : Bool} : Reads enc Try.prog w base spare held 93 (fun l : List (Arc) => [.sl 3 (l.map arcC)]) (fun l => ∀ a ∈ l, (fun _ => True) a) := reads_slice Try.underlying93 (by kernel_rfl) (by decide) (fun _ => by first | rfl | simp) rd105
set_option maxRecDepth 100000 in
theorem tuneContradicts_lifted (os : Os) (started : os.Started) (H : Type) (enc : TypeId × Value → H) :
    ReturnsInHanded {} Try.checked os 15 .any (Rows.tuneContradictsSpec.pre6 enc Try.prog Try.f15 Rows.tuneContradictsRow.domain false) (Rows.tuneContradictsSpec.post enc Try.prog Try.f15 false true false false) := by
  refine returnsInHanded_of_change (C := Try.checked) own started (by kernel_rfl) Try.func15
    (ChangeSpec.witness6 (enc := enc) (C := Try.checked) false ⟨#[], #[.slice none 0 0], []⟩ 8 (by kernel_rfl) (by kernel_rfl) (by kernel_rfl) (by kernel_rfl)) ?_
  intro W base args ds gs before hval0 hW hcnd _
  have hval : ∀ (j : Nat) t v, Try.f15.params[j]? = some t → args[j]? = some v → Value.okWide Try.prog W .any base t v := hval0
  have hW' := hW
  obtain ⟨p, q, hA0, hV, rfl, hfz, hnd⟩ := hW
  have hA : DataW.TrodAll enc Try.prog W 0 (fun _ => true) true Try.f15.params.toList args.toList ds p := hA0
  rw [Try.params15] at hA hval
  obtain ⟨v0, vs0, d0, ds0, p0, q0, hargs, rfl, rfl, h0, r0⟩ := trodAll_cons hA
  obtain ⟨rfl, rfl, rfl⟩ := trodAll_nil r0
  obtain rfl : args = #[v0] := by cases args; simp_all
  obtain ⟨rfl, rfl⟩ := trodVars_none hV
  have lt0 : ∀ x ∈ p0, x.block < W.heap.size := by obtain ⟨m, hm⟩ := h0; exact DataW.trod_lt m _ _ _ hm
  obtain ⟨b0, len0, cap0, rfl⟩ := okWide_slice Try.underlying93 (hval 0 93 v0 rfl rfl)
  obtain ⟨l0, g0, e0⟩ := arg_one h0 rd93 rfl
  clear hA0 hval0
  refine ((tuneContradicts_p l0) W okAll [_] ⟨e0, trivial⟩).mono fun e W' ⟨v, he, bel, hv⟩ => ?_
  obtain rfl := Rep.v_eq hv
  subst he
  exact ⟨_, rfl, _, _, _, [], _, [], hW', trodAll_mk1 (shut_bool Try.underlying4 _), (trodAll_cons_mk (Below.trod laidOut (by kernel_rfl) (of_decide_eq_true (by kernel_rfl)) h0 bel lt0) trodAll_mk0), rfl, bel.frame _, fun h => by cases h⟩
/-- The statement. -/
theorem tuneContradicts_holds : Rows.TuneContradictsSaid :=
  OpenClaim.holds_of_wide 15 Try.f15 rfl rfl rfl rfl rfl rfl rfl ⟨rfl, rfl, rfl, rfl, rfl⟩ rfl rfl rfl rfl rfl (by kernel_rfl) Try.func15 (by kernel_rfl)
    (of_decide_eq_true (by kernel_rfl)) (by unfold Func.isWrapper; first | (rw [if_pos (by decide +kernel)]; kernel_rfl) | (rw [if_neg (by decide +kernel)]; exact ⟨rfl, rfl⟩))
    (fun os started H enc _ => tuneContradicts_lifted os started H enc)
end Go.Proofs.Ytgdcidbpadhkpaa
