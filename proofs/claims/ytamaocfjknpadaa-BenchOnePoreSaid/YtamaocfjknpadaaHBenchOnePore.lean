/- Whatever the specimen, the pair and the move, BenchOnePore returns true, and its arguments read behind the call as before. Conditions: none. -/
import Derived.Test.YtamaocfjknpadaaJ4
import Derived.Test.YtamaocfjknpadaaAmC
import Derived.Test.YtamaocfjknpadaaRows
import Derived.WalkKit
import Derived.ProofKit
import Derived.OpenShut
import Derived.ShutString
import Derived.ChangeOld
import Derived.Below
namespace Go.Proofs.Ytamaocfjknpadaa
open Go Go.ChangeShapes Go.WideShapes Go.ChangeAt Go.RowKit Am Am.M
open Go.ChangeMaps (open_string shut_string)
set_option linter.unusedVariables false
set_option linter.unusedSimpArgs false
theorem own : ownKnob Try.prog.godebug = none := by kernel_rfl
theorem laidOut : laidOutB Try.prog = true := by kernel_rfl
theorem rd3 {H : Type} {enc : TypeId × Value → H} {w : World} {base : Nat} {spare : Nat → Bool} {held : Bool} : Reads enc Try.prog w base spare held 3 (fun n : Int => [.v (.int .i64 n)]) (fun n => (Lit.int .i64 n).wf = true) := reads_int Try.underlying3
theorem rd46 {H : Type} {enc : TypeId × Value → H} {w : World} {base : Nat} {spare : Nat → Bool} {held : Bool} : Reads enc Try.prog w base spare held 46 shC (fun _ => True) :=
  (reads_struct (ts := [(3, 1), (3, 1)]) (by kernel_rfl) (readsF_cons rd3 (readsF_cons rd3 readsF_nil))).map (fun p => (p.1, p.2.1)) (fun a h => ⟨by first | rfl | simp [D.cells], trivial⟩)
theorem rd31 {H : Type} {enc : TypeId × Value → H} {w : World} {base : Nat} {spare : Nat → Bool} {held : Bool} : Reads enc Try.prog w base spare held 31 (fun l : List (Int × Int) => [.sl 2 (l.map shC)]) (fun l => ∀ a ∈ l, (fun _ => True) a) := reads_slice Try.underlying31 (by kernel_rfl) (by decide) (fun _ => by first | rfl | simp) rd46
theorem rd33 {H : Type} {enc : TypeId × Value → H} {w : World} {base : Nat} {spare : Nat → Bool} {held : Bool} : Reads enc Try.prog w base spare held 33 mdC (fun _ => True) :=
  (reads_struct (ts := [(3, 1), (3, 1), (3, 1), (3, 1)]) (by kernel_rfl) (readsF_cons rd3 (readsF_cons rd3 (readsF_cons rd3 (readsF_cons rd3 readsF_nil))))).map (fun p => ⟨p.1, p.2.1, p.2.2.1, p.2.2.2.1⟩) (fun a h => ⟨by first | rfl | simp [D.cells], trivial⟩)
theorem rd35 {H : Type} {enc : TypeId × Value → H} {w : World} {base : Nat} {spare : Nat → Bool} {held : Bool} : Reads enc Try.prog w base spare held 35 shC (fun _ => True) :=
  (reads_struct (ts := [(3, 1), (3, 1)]) (by kernel_rfl) (readsF_cons rd3 (readsF_cons rd3 readsF_nil))).map (fun p => (p.1, p.2.1)) (fun a h => ⟨by first | rfl | simp [D.cells], trivial⟩)
theorem rd37 {H : Type} {enc : TypeId × Value → H} {w : World} {base : Nat} {spare : Nat → Bool} {held : Bool} : Reads enc Try.prog w base spare held 37 arrC (fun _ => True) :=
  (reads_struct (ts := [(31, 1), (33, 4), (33, 4), (35, 2)]) (by kernel_rfl) (readsF_cons rd31 (readsF_cons rd33 (readsF_cons rd33 (readsF_cons rd35 readsF_nil))))).map (fun p => ⟨p.1, p.2.1, p.2.2.1, p.2.2.2.1⟩) (fun a h => ⟨by first | rfl | simp [D.cells], trivial⟩)
theorem rd23 {H : Type} {enc : TypeId × Value → H} {w : World} {base : Nat} {spare : Nat → Bool} {held : Bool} : Reads enc Try.prog w base spare held 23 (fun l : List (Int) => [.sl 1 (l.map (fun n : Int => [.v (.int .i64 n)]))]) (fun l => ∀ a ∈ l, (fun n => (Lit.int .i64 n).wf = true) a) := reads_slice Try.underlying23 (by kernel_rfl) (by decide) (fun _ => by first | rfl | simp) rd3
theorem rd48 {H : Type} {enc : TypeId × Value → H} {w : World} {base : Nat} {spare : Nat → Bool} {held : Bool} : Reads enc Try.prog w base spare held 48 flwC (fun _ => True) :=
  (reads_struct (ts := [(3, 1), (46, 2), (46, 2), (3, 1), (3, 1), (3, 1)]) (by kernel_rfl) (readsF_cons rd3 (readsF_cons rd46 (readsF_cons rd46 (readsF_cons rd3 (readsF_cons rd3 (readsF_cons rd3 readsF_nil))))))).map (fun p => ⟨p.1, p.2.1, p.2.2.1, p.2.2.2.1, p.2.2.2.2.1, p.2.2.2.2.2.1⟩) (fun a h => ⟨by first | rfl | simp [D.cells], trivial⟩)
theorem rd38 {H : Type} {enc : TypeId × Value → H} {w : World} {base : Nat} {spare : Nat → Bool} {held : Bool} : Reads enc Try.prog w base spare held 38 (fun l : List (Flw) => [.sl 8 (l.map flwC)]) (fun l => ∀ a ∈ l, (fun _ => True) a) := reads_slice Try.underlying38 (by kernel_rfl) (by decide) (fun _ => by first | rfl | simp) rd48
theorem rd40 {H : Type} {enc : TypeId × Value → H} {w : World} {base : Nat} {spare : Nat → Bool} {held : Bool} : Reads enc Try.prog w base spare held 40 spcC (fun _ => True) :=
  (reads_struct (ts := [(37, 11), (23, 1), (38, 1)]) (by kernel_rfl) (readsF_cons rd37 (readsF_cons rd23 (readsF_cons rd38 readsF_nil)))).map (fun p => ⟨p.1, p.2.1, p.2.2.1⟩) (fun a h => ⟨by first | rfl | simp [D.cells], trivial⟩)
theorem rd41 {H : Type} {enc : TypeId × Value → H} {w : World} {base : Nat} {spare : Nat → Bool} {held : Bool} : Reads enc Try.prog w base spare held 41 shC (fun _ => True) :=
  (reads_array (s := 1) (m := 2) (e := 3) (by kernel_rfl) rd3).map (fun l => (l.getD 0 0, l.getD 1 0)) (fun a h => ⟨by match a, h.1 with | [x, y], _ => rfl, trivial⟩)
set_option maxRecDepth 100000 in
theorem benchOnePore_lifted (os : Os) (started : os.Started) (H : Type) (enc : TypeId × Value → H) :
    ReturnsInHanded {} Try.checked os 4 .any (Rows.benchOnePoreSpec.pre6 enc Try.prog Try.f4 Rows.benchOnePoreRow.domain false) (Rows.benchOnePoreSpec.post enc Try.prog Try.f4 false true false false) := by
  refine returnsInHanded_of_change (C := Try.checked) own started (by kernel_rfl) Try.func4
    (ChangeSpec.witness6 (enc := enc) (C := Try.checked) false ⟨#[], #[.agg #[.slice none 0 0, .int .i64 0, .int .i64 0, .int .i64 0, .int .i64 0, .int .i64 0, .int .i64 0, .int .i64 0, .int .i64 0, .int .i64 0, .int .i64 0, .slice none 0 0, .slice none 0 0], .agg #[.int .i64 0, .int .i64 0], .int .i64 0], []⟩ 8 (by kernel_rfl) (by kernel_rfl) (by kernel_rfl) (by kernel_rfl)) ?_
  intro W base args ds gs before hval0 hW hcnd _
  have hval : ∀ (j : Nat) t v, Try.f4.params[j]? = some t → args[j]? = some v → Value.okWide Try.prog W .any base t v := hval0
  have hW' := hW
  obtain ⟨p, q, hA0, hV, rfl, hfz, hnd⟩ := hW
  have hA : DataW.TrodAll enc Try.prog W 0 (fun _ => true) true Try.f4.params.toList args.toList ds p := hA0
  rw [Try.params4] at hA hval
  obtain ⟨v0, vs0, d0, ds0, p0, q0, hargs, rfl, rfl, h0, r0⟩ := trodAll_cons hA
  obtain ⟨v1, vs1, d1, ds1, p1, q1, rfl, rfl, rfl, h1, r1⟩ := trodAll_cons r0
  obtain ⟨v2, vs2, d2, ds2, p2, q2, rfl, rfl, rfl, h2, r2⟩ := trodAll_cons r1
  obtain ⟨rfl, rfl, rfl⟩ := trodAll_nil r2
  obtain rfl : args = #[v0, v1, v2] := by cases args; simp_all
  obtain ⟨rfl, rfl⟩ := trodVars_none hV
  have lt0 : ∀ x ∈ p0, x.block < W.heap.size := by obtain ⟨m, hm⟩ := h0; exact DataW.trod_lt m _ _ _ hm
  obtain ⟨cs0, rfl, -⟩ := okWide_struct Try.underlying40 (hval 0 40 v0 rfl rfl)
  obtain ⟨l0, g0, e0⟩ := arg_agg h0 rd40
  have lt1 : ∀ x ∈ p1, x.block < W.heap.size := by obtain ⟨m, hm⟩ := h1; exact DataW.trod_lt m _ _ _ hm
  obtain ⟨cs1, rfl⟩ := okWide_arr Try.underlying41 (hval 1 41 v1 rfl rfl)
  obtain ⟨l1, g1, e1⟩ := arg_agg h1 rd41
  have lt2 : ∀ x ∈ p2, x.block < W.heap.size := by obtain ⟨m, hm⟩ := h2; exact DataW.trod_lt m _ _ _ hm
  obtain ⟨u2, rfl, -⟩ := open_int Try.underlying3 (hval 2 3 v2 rfl rfl) h2
  obtain ⟨l2, g2, e2⟩ := arg_one h2 rd3 rfl
  clear hA0 hval0
  refine ((benchOnePore_p l0 l1 l2) W okAll [_, _, _] ⟨e0, e1, e2, trivial⟩).mono fun e W' ⟨v, he, bel, hv⟩ => ?_
  obtain rfl := Rep.v_eq hv
  subst he
  exact ⟨_, rfl, _, _, _, [], _, [], hW', trodAll_mk1 (shut_bool Try.underlying4 _), (trodAll_cons_mk (Below.trod laidOut (by kernel_rfl) (of_decide_eq_true (by kernel_rfl)) h0 bel lt0) (trodAll_cons_mk (Below.trod laidOut (by kernel_rfl) (of_decide_eq_true (by kernel_rfl)) h1 bel lt1) (trodAll_cons_mk (Below.trod laidOut (by kernel_rfl) (of_decide_eq_true (by kernel_rfl)) h2 bel lt2) trodAll_mk0))), rfl, bel.frame _, fun h => by cases h⟩
theorem benchOnePore_holds : Rows.BenchOnePoreSaid :=
  OpenClaim.holds_of_wide 4 Try.f4 rfl rfl rfl rfl rfl rfl rfl ⟨rfl, rfl, rfl, rfl, rfl⟩ rfl rfl rfl rfl rfl (by kernel_rfl) Try.func4 (by kernel_rfl)
    (of_decide_eq_true (by kernel_rfl)) (by unfold Func.isWrapper; first | (rw [if_pos (by decide +kernel)]; kernel_rfl) | (rw [if_neg (by decide +kernel)]; exact ⟨rfl, rfl⟩))
    (fun os started H enc _ => benchOnePore_lifted os started H enc)
end Go.Proofs.Ytamaocfjknpadaa
