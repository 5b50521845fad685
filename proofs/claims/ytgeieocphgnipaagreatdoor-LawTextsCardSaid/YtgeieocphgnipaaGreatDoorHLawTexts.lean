/- Whatever the law and the text, LawTexts returns true, and its arguments read behind the call as before. Conditions: none but what the card ties to the text of the program (tables and errors of the library). -/
import Derived.Test.YtgeieocphgnipaaGreatDoorG21
import Derived.Test.YtgeieocphgnipaaGreatDoorC0
import Derived.Test.YtgeieocphgnipaaGreatDoorAmB
import Derived.Test.YtgeieocphgnipaaGreatDoorRows
import Derived.Test.YtgeieocphgnipaaGreatDoorCards
import Derived.Test.YtgeieocphgnipaaGreatDoorTie
import Derived.WalkKit
import Derived.ProofKit
import Derived.OpenShut
import Derived.ShutString
import Derived.ChangeOld
import Derived.Below
import Derived.SevenTiedAt
namespace Go.Proofs.YtgeieocphgnipaaGreatDoor
open Go Go.ChangeShapes Go.WideShapes Go.ChangeAt Go.RowKit Am Am.M
open Go.ChangeMaps (open_string shut_string)
set_option linter.unusedVariables false
set_option linter.unusedSimpArgs false
theorem rd3 {H : Type} {enc : TypeId × Value → H} {w : World} {base : Nat} {spare : Nat → Bool} {held : Bool} : Reads enc Tryz.prog w base spare held 3 (fun n : Int => [.v (.int .i64 n)]) (fun n => (Lit.int .i64 n).wf = true) := reads_int Tryz.underlying3
theorem rd31 {H : Type} {enc : TypeId × Value → H} {w : World} {base : Nat} {spare : Nat → Bool} {held : Bool} : Reads enc Tryz.prog w base spare held 31 (fun l : List (Int) => [.sl 1 (l.map (fun n : Int => [.v (.int .i64 n)]))]) (fun l => ∀ a ∈ l, (fun n => (Lit.int .i64 n).wf = true) a) := reads_slice Tryz.underlying31 (by kernel_rfl) (by decide) (fun _ => by first | rfl | simp) rd3
theorem rd33 {H : Type} {enc : TypeId × Value → H} {w : World} {base : Nat} {spare : Nat → Bool} {held : Bool} : Reads enc Tryz.prog w base spare held 33 dlyC (fun x : Dly => DlyI x) :=
  (reads_struct (ts := [(3, 1), (31, 1)]) (by kernel_rfl) (readsF_cons rd3 (readsF_cons rd31 readsF_nil))).map (fun p => ⟨p.1, p.2.1⟩) (fun a h => ⟨by first | rfl | simp [D.cells], ⟨wf64 h.1, fun n hn => wf64 (h.2.1 n hn)⟩⟩)
theorem reads_str {H : Type} {enc : TypeId × Value → H} {P : Program} {w : World} {base : Nat} {spare : Nat → Bool} {held : Bool} {t : TypeId} (ht : P.underlying t = some .string) : Reads enc P w base spare held t (fun s : ByteArray => [.v (.string s)]) (fun s => s.size ≤ maxLen) := by
  intro fuel cs x h
  obtain ⟨s, rfl, _, hs⟩ := DataW.trod_string ht h
  exact ⟨s, hs, ⟨.v _ rfl, trivial⟩, by simp [D.sc]⟩
theorem rd9 {H : Type} {enc : TypeId × Value → H} {w : World} {base : Nat} {spare : Nat → Bool} {held : Bool} : Reads enc Tryz.prog w base spare held 9 (fun s : ByteArray => [.v (.string s)]) (fun s => s.size ≤ maxLen) := reads_str Tryz.underlying9
set_option maxRecDepth 100000 in
theorem lawTexts_lifted (os : Os) (started : os.Started) (H : Type) (enc : TypeId × Value → H) :
    ReturnsInHanded {} Tryz.checked os 16 .any (fun w args => (Rows.lawTextsSpec.pre enc Tryz.prog Tryz.f16 Rows.lawTextsRow.domain false w args ∧ laidMetH Tryz.prog listed w) ∧ sizedMet enc Tryz.prog Tryz.f16 (OpenSpec.ofChange Rows.lawTextsSpec) false w args) (Rows.lawTextsSpec.post enc Tryz.prog Tryz.f16 false true false false) := by
  refine returnsInHanded_listed (C := Tryz.checked) (X := fun w _ => laidMetH Tryz.prog listed w) laidH_heap own started (by kernel_rfl) Tryz.func16
    (ChangeSpec.witness_at (enc := enc) (C := Tryz.checked) (os := os) (X := fun w _ => laidMetH Tryz.prog listed w) false (laidWorld os) #[.agg #[.int .i64 0, .slice none 0 0], .string ⟨#[]⟩] 8 rfl (by kernel_rfl) (by kernel_rfl) (by kernel_rfl) (by kernel_rfl) (by kernel_rfl) (laidH_of (laidWorld_met os _))) ?_
  intro W base args ds gs before hval0 hW hshape hL hsz0
  have hval : ∀ (j : Nat) t v, Tryz.f16.params[j]? = some t → args[j]? = some v → Value.okWide Tryz.prog W .any base t v := hval0
  have hW' := hW
  obtain ⟨p, q, hA0, hV, rfl, hfz, hnd⟩ := hW
  have hA : DataW.TrodAll enc Tryz.prog W 0 (fun _ => true) true Tryz.f16.params.toList args.toList ds p := hA0
  rw [Tryz.params16] at hA hval
  obtain ⟨v0, vs0, d0, ds0, p0, q0, hargs, rfl, rfl, h0, r0⟩ := trodAll_cons hA
  obtain ⟨v1, vs1, d1, ds1, p1, q1, rfl, rfl, rfl, h1, r1⟩ := trodAll_cons r0
  obtain ⟨rfl, rfl, rfl⟩ := trodAll_nil r1
  obtain rfl : args = #[v0, v1] := by cases args; simp_all
  obtain ⟨rfl, rfl⟩ := trodVars_none hV
  have lt0 : ∀ x ∈ p0, x.block < W.heap.size := by obtain ⟨m, hm⟩ := h0; exact DataW.trod_lt m _ _ _ hm
  obtain ⟨cs0, rfl, -⟩ := okWide_struct Tryz.underlying33 (hval 0 33 v0 rfl rfl)
  obtain ⟨l0, g0, e0⟩ := arg_agg h0 rd33
  have lt1 : ∀ x ∈ p1, x.block < W.heap.size := by obtain ⟨m, hm⟩ := h1; exact DataW.trod_lt m _ _ _ hm
  obtain ⟨u1, rfl, -⟩ := open_string Tryz.underlying9 (hval 1 9 v1 rfl rfl) h1
  obtain ⟨l1, g1, e1⟩ := arg_one h1 rd9 rfl
  clear hA0 hval0
  refine ((lawTexts_p l0 l1 g0) W okAll [_, _] (gw_of_laid (laid_ofH hL) hshape) ⟨e0, e1, trivial⟩).mono fun e W' ⟨v, he, bel, hv⟩ => ?_
  obtain rfl := Rep.v_eq hv
  subst he
  exact ⟨_, rfl, _, _, _, [], _, [], hW', trodAll_mk1 (shut_bool Tryz.underlying4 _), (trodAll_cons_mk (Below.trod laidOut (by kernel_rfl) (of_decide_eq_true (by kernel_rfl)) h0 bel lt0) (trodAll_cons_mk (Below.trod laidOut (by kernel_rfl) (of_decide_eq_true (by kernel_rfl)) h1 bel lt1) trodAll_mk0)), rfl, bel.frame _, fun h => by cases h⟩
theorem lawTexts_facts : joinedFacts Tryz.prog 16 Tryz.f16 Rows.lawTextsSpec Rows.lawTextsRow = true := by kernel_rfl
theorem lawTexts_wrap : Tryz.f16.isWrapper Tryz.prog Rows.lawTextsRow.wrapper Rows.lawTextsRow.mainSum := by unfold Func.isWrapper; first | (rw [if_pos (by decide +kernel)]; kernel_rfl) | (rw [if_neg (by decide +kernel)]; exact ⟨rfl, rfl⟩)
theorem lawTexts_inst : Tryz.f16.isInstance Tryz.prog Rows.lawTextsRow.origin Rows.lawTextsRow.targs := of_decide_eq_true (by kernel_rfl)
theorem lawTexts_named : Tryz.prog.funcNamed "couplant/couplantlaw02.LawTexts" = some 16 := by kernel_rfl
theorem lawTexts_row : Rows.LawTextsSaid :=
  OpenClaim.holds_of_wide 16 Tryz.f16 rfl rfl rfl rfl rfl rfl rfl ⟨rfl, rfl, rfl, rfl, rfl⟩ rfl rfl rfl rfl rfl lawTexts_named Tryz.func16 lawTexts_facts lawTexts_inst lawTexts_wrap
    (fun os started H enc _ => lawTexts_lifted os started H enc)
/-- The statement: the card, tied. -/
theorem lawTexts_holds : Rows.LawTextsCardSaid :=
  Claim7.holds_tied_plain_at .later [] [.data, .data, .data, .data, .sentinel, .sentinel, .pinned] true (true, "edf788bde7f01a595ced99d6932ef65afefc56abb95618b09f052ef0460feb4d") true
    lawTexts_row (fun _ h => by cases h) (by kernel_rfl) (fun _ h => by cases h) lawTexts_row_tie rfl ⟨rfl, rfl⟩ (by kernel_rfl) rfl
    (fun f fn hf hfn => by
      obtain rfl : f = 16 := Option.some.inj (lawTexts_named.symm.trans hf) |>.symm
      obtain rfl : fn = Tryz.f16 := (Option.some.inj (Tryz.func16.symm.trans hfn)).symm
      refine ⟨by kernel_rfl, fun j t ht => ?_⟩
      rw [Tryz.params16] at ht
      have ht2 : t ∈ [33, 9] := by
        rw [List.mem_iff_getElem?]
        exact ⟨j, by simpa using ht⟩
      simp only [List.mem_cons, List.not_mem_nil, or_false] at ht2
      rcases ht2 with rfl | rfl
      · exact (show Tryz.prog.wantsStandIn 33 = false by kernel_rfl)
      · exact (show Tryz.prog.wantsStandIn 9 = false by kernel_rfl))
    (by kernel_rfl)
end Go.Proofs.YtgeieocphgnipaaGreatDoor
