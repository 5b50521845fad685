/- Whatever the array, the direction and the move, LawPlanes returns true, and its arguments read behind the call as before. Conditions: none but what the card ties to the text of the program (tables and errors of the library). -/
import Derived.Test.YtgeieocphgnipaaGreatDoorG13
import Derived.Test.YtgeieocphgnipaaGreatDoorC0
import Derived.Test.YtgeieocphgnipaaGreatDoorAmB
import Derived.Test.YtgeieocphgnipaaGreatDoorRows
import Derived.Test.YtgeieocphgnipaaGreatDoorCards
import Derived.Test.YtgeieocphgnipaaGreatDoorTie
import Derived.WalkKit
import Derived.ProofKit
import Derived.OpenShut
import Derived.ShutString
import Derived.ChangeOld
import Derived.Below
import Derived.SevenTiedAt
namespace Go.Proofs.YtgeieocphgnipaaGreatDoor
open Go Go.ChangeShapes Go.WideShapes Go.ChangeAt Go.RowKit Am Am.M
open Go.ChangeMaps (open_string shut_string)
set_option linter.unusedVariables false
set_option linter.unusedSimpArgs false
theorem rd3 {H : Type} {enc : TypeId × Value → H} {w : World} {base : Nat} {spare : Nat → Bool} {held : Bool} : Reads enc Tryz.prog w base spare held 3 (fun n : Int => [.v (.int .i64 n)]) (fun n => (Lit.int .i64 n).wf = true) := reads_int Tryz.underlying3
theorem rd28 {H : Type} {enc : TypeId × Value → H} {w : World} {base : Nat} {spare : Nat → Bool} {held : Bool} : Reads enc Tryz.prog w base spare held 28 shC (fun _ => True) :=
  (reads_struct (ts := [(3, 1), (3, 1)]) (by kernel_rfl) (readsF_cons rd3 (readsF_cons rd3 readsF_nil))).map (fun p => (p.1, p.2.1)) (fun a h => ⟨by first | rfl | simp [D.cells], trivial⟩)
theorem rd22 {H : Type} {enc : TypeId × Value → H} {w : World} {base : Nat} {spare : Nat → Bool} {held : Bool} : Reads enc Tryz.prog w base spare held 22 (fun l : List (Int × Int) => [.sl 2 (l.map shC)]) (fun l => ∀ a ∈ l, (fun _ => True) a) := reads_slice Tryz.underlying22 (by kernel_rfl) (by decide) (fun _ => by first | rfl | simp) rd28
theorem rd24 {H : Type} {enc : TypeId × Value → H} {w : World} {base : Nat} {spare : Nat → Bool} {held : Bool} : Reads enc Tryz.prog w base spare held 24 mdC (fun _ => True) :=
  (reads_struct (ts := [(3, 1), (3, 1), (3, 1), (3, 1)]) (by kernel_rfl) (readsF_cons rd3 (readsF_cons rd3 (readsF_cons rd3 (readsF_cons rd3 readsF_nil))))).map (fun p => ⟨p.1, p.2.1, p.2.2.1, p.2.2.2.1⟩) (fun a h => ⟨by first | rfl | simp [D.cells], trivial⟩)
theorem rd26 {H : Type} {enc : TypeId × Value → H} {w : World} {base : Nat} {spare : Nat → Bool} {held : Bool} : Reads enc Tryz.prog w base spare held 26 larC (fun _ => True) :=
  (reads_struct (ts := [(22, 1), (24, 4), (3, 1)]) (by kernel_rfl) (readsF_cons rd22 (readsF_cons rd24 (readsF_cons rd3 readsF_nil)))).map (fun p => ⟨p.1, p.2.1, p.2.2.1⟩) (fun a h => ⟨by first | rfl | simp [D.cells], trivial⟩)
theorem rd66 {H : Type} {enc : TypeId × Value → H} {w : World} {base : Nat} {spare : Nat → Bool} {held : Bool} : Reads enc Tryz.prog w base spare held 66 trnC (fun _ => True) :=
  (reads_struct (ts := [(3, 1), (3, 1), (3, 1)]) (by kernel_rfl) (readsF_cons rd3 (readsF_cons rd3 (readsF_cons rd3 readsF_nil)))).map (fun p => ⟨p.1, p.2.1, p.2.2.1⟩) (fun a h => ⟨by first | rfl | simp [D.cells], trivial⟩)
set_option maxRecDepth 100000 in
theorem lawPlanes_lifted (os : Os) (started : os.Started) (H : Type) (enc : TypeId × Value → H) :
    ReturnsInHanded {} Tryz.checked os 10 .any (fun w args => (Rows.lawPlanesSpec.pre enc Tryz.prog Tryz.f10 Rows.lawPlanesRow.domain false w args ∧ laidMetH Tryz.prog listed w) ∧ sizedMet enc Tryz.prog Tryz.f10 (OpenSpec.ofChange Rows.lawPlanesSpec) false w args) (Rows.lawPlanesSpec.post enc Tryz.prog Tryz.f10 false true false false) := by
  refine returnsInHanded_listed (C := Tryz.checked) (X := fun w _ => laidMetH Tryz.prog listed w) laidH_heap own started (by kernel_rfl) Tryz.func10
    (ChangeSpec.witness_at (enc := enc) (C := Tryz.checked) (os := os) (X := fun w _ => laidMetH Tryz.prog listed w) false (laidWorld os) #[.agg #[.slice none 0 0, .int .i64 0, .int .i64 0, .int .i64 0, .int .i64 0, .int .i64 0], .agg #[.int .i64 0, .int .i64 0, .int .i64 0], .int .i64 0] 8 rfl (by kernel_rfl) (by kernel_rfl) (by kernel_rfl) (by kernel_rfl) (by kernel_rfl) (laidH_of (laidWorld_met os _))) ?_
  intro W base args ds gs before hval0 hW hshape hL hsz0
  have hval : ∀ (j : Nat) t v, Tryz.f10.params[j]? = some t → args[j]? = some v → Value.okWide Tryz.prog W .any base t v := hval0
  have hW' := hW
  obtain ⟨p, q, hA0, hV, rfl, hfz, hnd⟩ := hW
  have hA : DataW.TrodAll enc Tryz.prog W 0 (fun _ => true) true Tryz.f10.params.toList args.toList ds p := hA0
  rw [Tryz.params10] at hA hval
  obtain ⟨v0, vs0, d0, ds0, p0, q0, hargs, rfl, rfl, h0, r0⟩ := trodAll_cons hA
  obtain ⟨v1, vs1, d1, ds1, p1, q1, rfl, rfl, rfl, h1, r1⟩ := trodAll_cons r0
  obtain ⟨v2, vs2, d2, ds2, p2, q2, rfl, rfl, rfl, h2, r2⟩ := trodAll_cons r1
  obtain ⟨rfl, rfl, rfl⟩ := trodAll_nil r2
  obtain rfl : args = #[v0, v1, v2] := by cases args; simp_all
  obtain ⟨rfl, rfl⟩ := trodVars_none hV
  have lt0 : ∀ x ∈ p0, x.block < W.heap.size := by obtain ⟨m, hm⟩ := h0; exact DataW.trod_lt m _ _ _ hm
  obtain ⟨cs0, rfl, -⟩ := okWide_struct Tryz.underlying26 (hval 0 26 v0 rfl rfl)
  obtain ⟨l0, g0, e0⟩ := arg_agg h0 rd26
  have lt1 : ∀ x ∈ p1, x.block < W.heap.size := by obtain ⟨m, hm⟩ := h1; exact DataW.trod_lt m _ _ _ hm
  obtain ⟨cs1, rfl, -⟩ := okWide_struct Tryz.underlying66 (hval 1 66 v1 rfl rfl)
  obtain ⟨l1, g1, e1⟩ := arg_agg h1 rd66
  have lt2 : ∀ x ∈ p2, x.block < W.heap.size := by obtain ⟨m, hm⟩ := h2; exact DataW.trod_lt m _ _ _ hm
  obtain ⟨u2, rfl, -⟩ := open_int Tryz.underlying3 (hval 2 3 v2 rfl rfl) h2
  obtain ⟨l2, g2, e2⟩ := arg_one h2 rd3 rfl
  clear hA0 hval0
  refine ((lawPlanes_p l0 l1 l2) W okAll [_, _, _] (gw_of_laid (laid_ofH hL) hshape) ⟨e0, e1, e2, trivial⟩).mono fun e W' ⟨v, he, bel, hv⟩ => ?_
  obtain rfl := Rep.v_eq hv
  subst he
  exact ⟨_, rfl, _, _, _, [], _, [], hW', trodAll_mk1 (shut_bool Tryz.underlying4 _), (trodAll_cons_mk (Below.trod laidOut (by kernel_rfl) (of_decide_eq_true (by kernel_rfl)) h0 bel lt0) (trodAll_cons_mk (Below.trod laidOut (by kernel_rfl) (of_decide_eq_true (by kernel_rfl)) h1 bel lt1) (trodAll_cons_mk (Below.trod laidOut (by kernel_rfl) (of_decide_eq_true (by kernel_rfl)) h2 bel lt2) trodAll_mk0))), rfl, bel.frame _, fun h => by cases h⟩
theorem lawPlanes_facts : joinedFacts Tryz.prog 10 Tryz.f10 Rows.lawPlanesSpec Rows.lawPlanesRow = true := by kernel_rfl
theorem lawPlanes_wrap : Tryz.f10.isWrapper Tryz.prog Rows.lawPlanesRow.wrapper Rows.lawPlanesRow.mainSum := by unfold Func.isWrapper; first | (rw [if_pos (by decide +kernel)]; kernel_rfl) | (rw [if_neg (by decide +kernel)]; exact ⟨rfl, rfl⟩)
theorem lawPlanes_inst : Tryz.f10.isInstance Tryz.prog Rows.lawPlanesRow.origin Rows.lawPlanesRow.targs := of_decide_eq_true (by kernel_rfl)
theorem lawPlanes_named : Tryz.prog.funcNamed "couplant/couplantlaw02.LawPlanes" = some 10 := by kernel_rfl
theorem lawPlanes_row : Rows.LawPlanesSaid :=
  OpenClaim.holds_of_wide 10 Tryz.f10 rfl rfl rfl rfl rfl rfl rfl ⟨rfl, rfl, rfl, rfl, rfl⟩ rfl rfl rfl rfl rfl lawPlanes_named Tryz.func10 lawPlanes_facts lawPlanes_inst lawPlanes_wrap
    (fun os started H enc _ => lawPlanes_lifted os started H enc)
/-- The statement: the card, tied. -/
theorem lawPlanes_holds : Rows.LawPlanesCardSaid :=
  Claim7.holds_tied_plain_at .later [] [.data, .data, .data, .data, .sentinel, .sentinel, .pinned] true (true, "edf788bde7f01a595ced99d6932ef65afefc56abb95618b09f052ef0460feb4d") true
    lawPlanes_row (fun _ h => by cases h) (by kernel_rfl) (fun _ h => by cases h) lawPlanes_row_tie rfl ⟨rfl, rfl⟩ (by kernel_rfl) rfl
    (fun f fn hf hfn => by
      obtain rfl : f = 10 := Option.some.inj (lawPlanes_named.symm.trans hf) |>.symm
      obtain rfl : fn = Tryz.f10 := (Option.some.inj (Tryz.func10.symm.trans hfn)).symm
      refine ⟨by kernel_rfl, fun j t ht => ?_⟩
      rw [Tryz.params10] at ht
      have ht2 : t ∈ [26, 66, 3] := by
        rw [List.mem_iff_getElem?]
        exact ⟨j, by simpa using ht⟩
      simp only [List.mem_cons, List.not_mem_nil, or_false] at ht2
      rcases ht2 with rfl | rfl | rfl
      · exact (show Tryz.prog.wantsStandIn 26 = false by kernel_rfl)
      · exact (show Tryz.prog.wantsStandIn 66 = false by kernel_rfl)
      · exact (show Tryz.prog.wantsStandIn 3 = false by kernel_rfl))
    (by kernel_rfl)
end Go.Proofs.YtgeieocphgnipaaGreatDoor
