/- Whatever the grid, the powers and the text, FocusTexts returns true, and its arguments read behind the call as before. Conditions: none but what the card ties to the text of the program (tables and errors of the library). -/
import Derived.Test.YtcdccdcbfbakfaaGreatDoorV9
import Derived.Test.YtcdccdcbfbakfaaGreatDoorC0
import Derived.Test.YtcdccdcbfbakfaaGreatDoorAmB
import Derived.Test.YtcdccdcbfbakfaaGreatDoorRows
import Derived.Test.YtcdccdcbfbakfaaGreatDoorCards
import Derived.Test.YtcdccdcbfbakfaaGreatDoorTie
import Derived.WalkKit
import Derived.ProofKit
import Derived.OpenShut
import Derived.ShutString
import Derived.ChangeOld
import Derived.Below
import Derived.SevenTiedAt
namespace Go.Proofs.YtcdccdcbfbakfaaGreatDoor
open Go Go.ChangeShapes Go.WideShapes Go.ChangeAt Go.RowKit Am Am.M
open Go.ChangeMaps (open_string shut_string)
set_option linter.unusedVariables false
set_option linter.unusedSimpArgs false
theorem rd3 {H : Type} {enc : TypeId × Value → H} {w : World} {base : Nat} {spare : Nat → Bool} {held : Bool} : Reads enc Tryz.prog w base spare held 3 (fun n : Int => [.v (.int .i64 n)]) (fun n => (Lit.int .i64 n).wf = true) := reads_int Tryz.underlying3
theorem rd23 {H : Type} {enc : TypeId × Value → H} {w : World} {base : Nat} {spare : Nat → Bool} {held : Bool} : Reads enc Tryz.prog w base spare held 23 shC (fun _ => True) :=
  (reads_struct (ts := [(3, 1), (3, 1)]) (by kernel_rfl) (readsF_cons rd3 (readsF_cons rd3 readsF_nil))).map (fun p => (p.1, p.2.1)) (fun a h => ⟨by first | rfl | simp [D.cells], trivial⟩)
theorem rd25 {H : Type} {enc : TypeId × Value → H} {w : World} {base : Nat} {spare : Nat → Bool} {held : Bool} : Reads enc Tryz.prog w base spare held 25 grdC (fun _ => True) :=
  (reads_struct (ts := [(23, 2), (3, 1), (3, 1), (3, 1)]) (by kernel_rfl) (readsF_cons rd23 (readsF_cons rd3 (readsF_cons rd3 (readsF_cons rd3 readsF_nil))))).map (fun p => ⟨p.1.1, p.1.2, p.2.1, p.2.2.1, p.2.2.2.1⟩) (fun a h => ⟨by first | rfl | simp [D.cells], trivial⟩)
theorem rd26 {H : Type} {enc : TypeId × Value → H} {w : World} {base : Nat} {spare : Nat → Bool} {held : Bool} : Reads enc Tryz.prog w base spare held 26 (fun l : List (Int) => [.sl 1 (l.map (fun n : Int => [.v (.int .i64 n)]))]) (fun l => ∀ a ∈ l, (fun n => (Lit.int .i64 n).wf = true) a) := reads_slice Tryz.underlying26 (by kernel_rfl) (by decide) (fun _ => by first | rfl | simp) rd3
theorem reads_str {H : Type} {enc : TypeId × Value → H} {P : Program} {w : World} {base : Nat} {spare : Nat → Bool} {held : Bool} {t : TypeId} (ht : P.underlying t = some .string) : Reads enc P w base spare held t (fun s : ByteArray => [.v (.string s)]) (fun s => s.size ≤ maxLen) := by
  intro fuel cs x h
  obtain ⟨s, rfl, _, hs⟩ := DataW.trod_string ht h
  exact ⟨s, hs, ⟨.v _ rfl, trivial⟩, by simp [D.sc]⟩
theorem rd9 {H : Type} {enc : TypeId × Value → H} {w : World} {base : Nat} {spare : Nat → Bool} {held : Bool} : Reads enc Tryz.prog w base spare held 9 (fun s : ByteArray => [.v (.string s)]) (fun s => s.size ≤ maxLen) := reads_str Tryz.underlying9
set_option maxRecDepth 100000 in
theorem focusTexts_lifted (os : Os) (started : os.Started) (H : Type) (enc : TypeId × Value → H) :
    ReturnsInHanded {} Tryz.checked os 3 .any (fun w args => (Rows.focusTextsSpec.pre enc Tryz.prog Tryz.f3 Rows.focusTextsRow.domain false w args ∧ laidMetH Tryz.prog listed w) ∧ sizedMet enc Tryz.prog Tryz.f3 (OpenSpec.ofChange Rows.focusTextsSpec) false w args) (Rows.focusTextsSpec.post enc Tryz.prog Tryz.f3 false true false false) := by
  refine returnsInHanded_listed (C := Tryz.checked) (X := fun w _ => laidMetH Tryz.prog listed w) laidH_heap own started (by kernel_rfl) Tryz.func3
    (ChangeSpec.witness_at (enc := enc) (C := Tryz.checked) (os := os) (X := fun w _ => laidMetH Tryz.prog listed w) false (laidWorld os) #[.agg #[.int .i64 0, .int .i64 0, .int .i64 0, .int .i64 0, .int .i64 0], .slice none 0 0, .string ⟨#[]⟩] 8 rfl (by kernel_rfl) (by kernel_rfl) (by kernel_rfl) (by kernel_rfl) (by kernel_rfl) (laidH_of (laidWorld_met os _))) ?_
  intro W base args ds gs before hval0 hW hshape hL hsz0
  have hval : ∀ (j : Nat) t v, Tryz.f3.params[j]? = some t → args[j]? = some v → Value.okWide Tryz.prog W .any base t v := hval0
  have hW' := hW
  obtain ⟨p, q, hA0, hV, rfl, hfz, hnd⟩ := hW
  have hA : DataW.TrodAll enc Tryz.prog W 0 (fun _ => true) true Tryz.f3.params.toList args.toList ds p := hA0
  rw [Tryz.params3] at hA hval
  obtain ⟨v0, vs0, d0, ds0, p0, q0, hargs, rfl, rfl, h0, r0⟩ := trodAll_cons hA
  obtain ⟨v1, vs1, d1, ds1, p1, q1, rfl, rfl, rfl, h1, r1⟩ := trodAll_cons r0
  obtain ⟨v2, vs2, d2, ds2, p2, q2, rfl, rfl, rfl, h2, r2⟩ := trodAll_cons r1
  obtain ⟨rfl, rfl, rfl⟩ := trodAll_nil r2
  obtain rfl : args = #[v0, v1, v2] := by cases args; simp_all
  obtain ⟨rfl, rfl⟩ := trodVars_none hV
  have lt0 : ∀ x ∈ p0, x.block < W.heap.size := by obtain ⟨m, hm⟩ := h0; exact DataW.trod_lt m _ _ _ hm
  obtain ⟨cs0, rfl, -⟩ := okWide_struct Tryz.underlying25 (hval 0 25 v0 rfl rfl)
  obtain ⟨l0, g0, e0⟩ := arg_agg h0 rd25
  have lt1 : ∀ x ∈ p1, x.block < W.heap.size := by obtain ⟨m, hm⟩ := h1; exact DataW.trod_lt m _ _ _ hm
  obtain ⟨b1, len1, cap1, rfl⟩ := okWide_slice Tryz.underlying26 (hval 1 26 v1 rfl rfl)
  obtain ⟨l1, g1, e1⟩ := arg_one h1 rd26 rfl
  have lt2 : ∀ x ∈ p2, x.block < W.heap.size := by obtain ⟨m, hm⟩ := h2; exact DataW.trod_lt m _ _ _ hm
  obtain ⟨u2, rfl, -⟩ := open_string Tryz.underlying9 (hval 2 9 v2 rfl rfl) h2
  obtain ⟨l2, g2, e2⟩ := arg_one h2 rd9 rfl
  clear hA0 hval0
  refine ((focusTexts_p l0 l1 l2) W okAll [_, _, _] (gw_of_laid (laid_ofH hL) hshape) ⟨e0, e1, e2, trivial⟩).mono fun e W' ⟨v, he, bel, hv⟩ => ?_
  obtain rfl := Rep.v_eq hv
  subst he
  exact ⟨_, rfl, _, _, _, [], _, [], hW', trodAll_mk1 (shut_bool Tryz.underlying4 _), (trodAll_cons_mk (Below.trod laidOut (by kernel_rfl) (of_decide_eq_true (by kernel_rfl)) h0 bel lt0) (trodAll_cons_mk (Below.trod laidOut (by kernel_rfl) (of_decide_eq_true (by kernel_rfl)) h1 bel lt1) (trodAll_cons_mk (Below.trod laidOut (by kernel_rfl) (of_decide_eq_true (by kernel_rfl)) h2 bel lt2) trodAll_mk0))), rfl, bel.frame _, fun h => by cases h⟩
theorem focusTexts_facts : joinedFacts Tryz.prog 3 Tryz.f3 Rows.focusTextsSpec Rows.focusTextsRow = true := by kernel_rfl
theorem focusTexts_wrap : Tryz.f3.isWrapper Tryz.prog Rows.focusTextsRow.wrapper Rows.focusTextsRow.mainSum := by unfold Func.isWrapper; first | (rw [if_pos (by decide +kernel)]; kernel_rfl) | (rw [if_neg (by decide +kernel)]; exact ⟨rfl, rfl⟩)
theorem focusTexts_inst : Tryz.f3.isInstance Tryz.prog Rows.focusTextsRow.origin Rows.focusTextsRow.targs := of_decide_eq_true (by kernel_rfl)
theorem focusTexts_named : Tryz.prog.funcNamed "couplant/couplantlaw05.FocusTexts" = some 3 := by kernel_rfl
theorem focusTexts_row : Rows.FocusTextsSaid :=
  OpenClaim.holds_of_wide 3 Tryz.f3 rfl rfl rfl rfl rfl rfl rfl ⟨rfl, rfl, rfl, rfl, rfl⟩ rfl rfl rfl rfl rfl focusTexts_named Tryz.func3 focusTexts_facts focusTexts_inst focusTexts_wrap
    (fun os started H enc _ => focusTexts_lifted os started H enc)
theorem focusTexts_holds : Rows.FocusTextsCardSaid :=
  Claim7.holds_tied_plain_at .later [] [.data, .data, .data, .data, .sentinel, .sentinel, .pinned] true (true, "12a60a56ef99518213230c8f7d7fed55a9ddfc7656b0d7c4ff384da299b75964") true
    focusTexts_row (fun _ h => by cases h) (by kernel_rfl) (fun _ h => by cases h) focusTexts_row_tie rfl ⟨rfl, rfl⟩ (by kernel_rfl) rfl
    (fun f fn hf hfn => by
      obtain rfl : f = 3 := Option.some.inj (focusTexts_named.symm.trans hf) |>.symm
      obtain rfl : fn = Tryz.f3 := (Option.some.inj (Tryz.func3.symm.trans hfn)).symm
      refine ⟨by kernel_rfl, fun j t ht => ?_⟩
      rw [Tryz.params3] at ht
      have ht2 : t ∈ [25, 26, 9] := by
        rw [List.mem_iff_getElem?]
        exact ⟨j, by simpa using ht⟩
      simp only [List.mem_cons, List.not_mem_nil, or_false] at ht2
      rcases ht2 with rfl | rfl | rfl
      · exact (show Tryz.prog.wantsStandIn 25 = false by kernel_rfl)
      · exact (show Tryz.prog.wantsStandIn 26 = false by kernel_rfl)
      · exact (show Tryz.prog.wantsStandIn 9 = false by kernel_rfl))
    (by kernel_rfl)
end Go.Proofs.YtcdccdcbfbakfaaGreatDoor
