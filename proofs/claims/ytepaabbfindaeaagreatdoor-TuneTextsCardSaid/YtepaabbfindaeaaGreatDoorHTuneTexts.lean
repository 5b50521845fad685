/- Whatever the event and the text, TuneTexts returns true, and its arguments read behind the call as before. Conditions: none but what the card ties to the text of the program (tables and errors of the library). -/
import Derived.Test.YtepaabbfindaeaaGreatDoorU4
import Derived.Test.YtepaabbfindaeaaGreatDoorC0
import Derived.Test.YtepaabbfindaeaaGreatDoorAmB
import Derived.Test.YtepaabbfindaeaaGreatDoorRows
import Derived.Test.YtepaabbfindaeaaGreatDoorCards
import Derived.Test.YtepaabbfindaeaaGreatDoorTie
import Derived.WalkKit
import Derived.ProofKit
import Derived.OpenShut
import Derived.ShutString
import Derived.ChangeOld
import Derived.Below
import Derived.SevenTiedAt
namespace Go.Proofs.YtepaabbfindaeaaGreatDoor
open Go Go.ChangeShapes Go.WideShapes Go.ChangeAt Go.RowKit Am Am.M
open Go.ChangeMaps (open_string shut_string)
set_option linter.unusedVariables false
set_option linter.unusedSimpArgs false
theorem rd3 {H : Type} {enc : TypeId × Value → H} {w : World} {base : Nat} {spare : Nat → Bool} {held : Bool} : Reads enc Tryz.prog w base spare held 3 (fun n : Int => [.v (.int .i64 n)]) (fun n => (Lit.int .i64 n).wf = true) := reads_int Tryz.underlying3
theorem rd23 {H : Type} {enc : TypeId × Value → H} {w : World} {base : Nat} {spare : Nat → Bool} {held : Bool} : Reads enc Tryz.prog w base spare held 23 evC (fun x : Evt => EvI x) :=
  (reads_struct (ts := [(3, 1), (3, 1), (3, 1)]) (by kernel_rfl) (readsF_cons rd3 (readsF_cons rd3 (readsF_cons rd3 readsF_nil)))).map (fun p => ⟨p.1, p.2.1, p.2.2.1⟩) (fun a h => ⟨by first | rfl | simp [D.cells], ⟨wf64 h.1, wf64 h.2.1, wf64 h.2.2.1⟩⟩)
theorem reads_str {H : Type} {enc : TypeId × Value → H} {P : Program} {w : World} {base : Nat} {spare : Nat → Bool} {held : Bool} {t : TypeId} (ht : P.underlying t = some .string) : Reads enc P w base spare held t (fun s : ByteArray => [.v (.string s)]) (fun s => s.size ≤ maxLen) := by
  intro fuel cs x h
  obtain ⟨s, rfl, _, hs⟩ := DataW.trod_string ht h
  exact ⟨s, hs, ⟨.v _ rfl, trivial⟩, by simp [D.sc]⟩
theorem rd9 {H : Type} {enc : TypeId × Value → H} {w : World} {base : Nat} {spare : Nat → Bool} {held : Bool} : Reads enc Tryz.prog w base spare held 9 (fun s : ByteArray => [.v (.string s)]) (fun s => s.size ≤ maxLen) := reads_str Tryz.underlying9
set_option maxRecDepth 100000 in
theorem tuneTexts_lifted (os : Os) (started : os.Started) (H : Type) (enc : TypeId × Value → H) :
    ReturnsInHanded {} Tryz.checked os 3 .any (fun w args => (Rows.tuneTextsSpec.pre enc Tryz.prog Tryz.f3 Rows.tuneTextsRow.domain false w args ∧ laidMetH Tryz.prog listed w) ∧ sizedMet enc Tryz.prog Tryz.f3 (OpenSpec.ofChange Rows.tuneTextsSpec) false w args) (Rows.tuneTextsSpec.post enc Tryz.prog Tryz.f3 false true false false) := by
  refine returnsInHanded_listed (C := Tryz.checked) (X := fun w _ => laidMetH Tryz.prog listed w) laidH_heap own started (by kernel_rfl) Tryz.func3
    (ChangeSpec.witness_at (enc := enc) (C := Tryz.checked) (os := os) (X := fun w _ => laidMetH Tryz.prog listed w) false (laidWorld os) #[.agg #[.int .i64 0, .int .i64 0, .int .i64 0], .string ⟨#[]⟩] 8 rfl (by kernel_rfl) (by kernel_rfl) (by kernel_rfl) (by kernel_rfl) (by kernel_rfl) (laidH_of (laidWorld_met os _))) ?_
  intro W base args ds gs before hval0 hW hshape hL hsz0
  have hval : ∀ (j : Nat) t v, Tryz.f3.params[j]? = some t → args[j]? = some v → Value.okWide Tryz.prog W .any base t v := hval0
  have hW' := hW
  obtain ⟨p, q, hA0, hV, rfl, hfz, hnd⟩ := hW
  have hA : DataW.TrodAll enc Tryz.prog W 0 (fun _ => true) true Tryz.f3.params.toList args.toList ds p := hA0
  rw [Tryz.params3] at hA hval
  obtain ⟨v0, vs0, d0, ds0, p0, q0, hargs, rfl, rfl, h0, r0⟩ := trodAll_cons hA
  obtain ⟨v1, vs1, d1, ds1, p1, q1, rfl, rfl, rfl, h1, r1⟩ := trodAll_cons r0
  obtain ⟨rfl, rfl, rfl⟩ := trodAll_nil r1
  obtain rfl : args = #[v0, v1] := by cases args; simp_all
  obtain ⟨rfl, rfl⟩ := trodVars_none hV
  have lt0 : ∀ x ∈ p0, x.block < W.heap.size := by obtain ⟨m, hm⟩ := h0; exact DataW.trod_lt m _ _ _ hm
  obtain ⟨cs0, rfl, -⟩ := okWide_struct Tryz.underlying23 (hval 0 23 v0 rfl rfl)
  obtain ⟨l0, g0, e0⟩ := arg_agg h0 rd23
  have lt1 : ∀ x ∈ p1, x.block < W.heap.size := by obtain ⟨m, hm⟩ := h1; exact DataW.trod_lt m _ _ _ hm
  obtain ⟨u1, rfl, -⟩ := open_string Tryz.underlying9 (hval 1 9 v1 rfl rfl) h1
  obtain ⟨l1, g1, e1⟩ := arg_one h1 rd9 rfl
  clear hA0 hval0
  refine ((tuneTexts_p l0 l1 g0) W okAll [_, _] (gw_of_laid (laid_ofH hL) hshape) ⟨e0, e1, trivial⟩).mono fun e W' ⟨v, he, bel, hv⟩ => ?_
  obtain rfl := Rep.v_eq hv
  subst he
  exact ⟨_, rfl, _, _, _, [], _, [], hW', trodAll_mk1 (shut_bool Tryz.underlying4 _), (trodAll_cons_mk (Below.trod laidOut (by kernel_rfl) (of_decide_eq_true (by kernel_rfl)) h0 bel lt0) (trodAll_cons_mk (Below.trod laidOut (by kernel_rfl) (of_decide_eq_true (by kernel_rfl)) h1 bel lt1) trodAll_mk0)), rfl, bel.frame _, fun h => by cases h⟩
theorem tuneTexts_facts : joinedFacts Tryz.prog 3 Tryz.f3 Rows.tuneTextsSpec Rows.tuneTextsRow = true := by kernel_rfl
theorem tuneTexts_wrap : Tryz.f3.isWrapper Tryz.prog Rows.tuneTextsRow.wrapper Rows.tuneTextsRow.mainSum := by unfold Func.isWrapper; first | (rw [if_pos (by decide +kernel)]; kernel_rfl) | (rw [if_neg (by decide +kernel)]; exact ⟨rfl, rfl⟩)
theorem tuneTexts_inst : Tryz.f3.isInstance Tryz.prog Rows.tuneTextsRow.origin Rows.tuneTextsRow.targs := of_decide_eq_true (by kernel_rfl)
theorem tuneTexts_named : Tryz.prog.funcNamed "couplant/couplantlaw06.TuneTexts" = some 3 := by kernel_rfl
theorem tuneTexts_row : Rows.TuneTextsSaid :=
  OpenClaim.holds_of_wide 3 Tryz.f3 rfl rfl rfl rfl rfl rfl rfl ⟨rfl, rfl, rfl, rfl, rfl⟩ rfl rfl rfl rfl rfl tuneTexts_named Tryz.func3 tuneTexts_facts tuneTexts_inst tuneTexts_wrap
    (fun os started H enc _ => tuneTexts_lifted os started H enc)
/-- The statement: the card, tied. -/
theorem tuneTexts_holds : Rows.TuneTextsCardSaid :=
  Claim7.holds_tied_plain_at .later [] [.data, .data, .data, .data, .sentinel, .sentinel, .pinned] true (true, "41ef7c9c2cde64e126a125cdddce01b5128fd18d767bc507486fc452b4d3d9f0") true
    tuneTexts_row (fun _ h => by cases h) (by kernel_rfl) (fun _ h => by cases h) tuneTexts_row_tie rfl ⟨rfl, rfl⟩ (by kernel_rfl) rfl
    (fun f fn hf hfn => by
      obtain rfl : f = 3 := Option.some.inj (tuneTexts_named.symm.trans hf) |>.symm
      obtain rfl : fn = Tryz.f3 := (Option.some.inj (Tryz.func3.symm.trans hfn)).symm
      refine ⟨by kernel_rfl, fun j t ht => ?_⟩
      rw [Tryz.params3] at ht
      have ht2 : t ∈ [23, 9] := by
        rw [List.mem_iff_getElem?]
        exact ⟨j, by simpa using ht⟩
      simp only [List.mem_cons, List.not_mem_nil, or_false] at ht2
      rcases ht2 with rfl | rfl
      · exact (show Tryz.prog.wantsStandIn 23 = false by kernel_rfl)
      · exact (show Tryz.prog.wantsStandIn 9 = false by kernel_rfl))
    (by kernel_rfl)
end Go.Proofs.YtepaabbfindaeaaGreatDoor
