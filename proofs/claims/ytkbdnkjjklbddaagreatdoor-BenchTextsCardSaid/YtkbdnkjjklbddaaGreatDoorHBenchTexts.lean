/- Whatever the specimen and the text, BenchTexts returns true, and its arguments read behind the call as before. Conditions: none but what the card ties to the text of the program (tables, words and errors). -/
import Derived.Test.YtkbdnkjjklbddaaGreatDoorB20
import Derived.Test.YtkbdnkjjklbddaaGreatDoorC0
import Derived.Test.YtkbdnkjjklbddaaGreatDoorAmB
import Derived.Test.YtkbdnkjjklbddaaGreatDoorRows
import Derived.Test.YtkbdnkjjklbddaaGreatDoorCards
import Derived.Test.YtkbdnkjjklbddaaGreatDoorTie
import Derived.WalkKit
import Derived.ProofKit
import Derived.OpenShut
import Derived.ShutString
import Derived.ChangeOld
import Derived.Below
import Derived.SevenTiedAt
namespace Go.Proofs.YtkbdnkjjklbddaaGreatDoor
open Go Go.ChangeShapes Go.WideShapes Go.ChangeAt Go.RowKit Am Am.M
open Go.ChangeMaps (open_string shut_string)
set_option linter.unusedVariables false
set_option linter.unusedSimpArgs false
theorem wf64 {n : Int} (h : (Lit.int .i64 n).wf = true) : In64 n := by
  have h2 : (decide (IntKind.i64.min ≤ n) && decide (n ≤ IntKind.i64.max)) = true := h
  rw [Bool.and_eq_true, decide_eq_true_eq, decide_eq_true_eq] at h2
  have e1 : IntKind.i64.min = -9223372036854775808 := by decide
  have e2 : IntKind.i64.max = 9223372036854775807 := by decide
  unfold In64
  omega
theorem flwI_of {x : Flw} (h1 : In64 x.at_.1) (h2 : In64 x.at_.2) (h3 : In64 x.to_.1) (h4 : In64 x.to_.2) (h5 : In64 x.pc) (h6 : In64 x.am) (h7 : In64 x.tp) : FlwI x := by
  intro n hn
  simp only [flN7, List.mem_cons, List.not_mem_nil, or_false] at hn
  rcases hn with rfl | rfl | rfl | rfl | rfl | rfl | rfl <;> assumption
theorem rd3 {H : Type} {enc : TypeId × Value → H} {w : World} {base : Nat} {spare : Nat → Bool} {held : Bool} : Reads enc Tryz.prog w base spare held 3 (fun n : Int => [.v (.int .i64 n)]) (fun n => (Lit.int .i64 n).wf = true) := reads_int Tryz.underlying3
theorem rd37 {H : Type} {enc : TypeId × Value → H} {w : World} {base : Nat} {spare : Nat → Bool} {held : Bool} : Reads enc Tryz.prog w base spare held 37 shC (fun p : Int × Int => In64 p.1 ∧ In64 p.2) :=
  (reads_struct (ts := [(3, 1), (3, 1)]) (by kernel_rfl) (readsF_cons rd3 (readsF_cons rd3 readsF_nil))).map (fun p => (p.1, p.2.1)) (fun a h => ⟨by first | rfl | simp [D.cells], ⟨wf64 h.1, wf64 h.2.1⟩⟩)
theorem rd22 {H : Type} {enc : TypeId × Value → H} {w : World} {base : Nat} {spare : Nat → Bool} {held : Bool} : Reads enc Tryz.prog w base spare held 22 (fun l : List (Int × Int) => [.sl 2 (l.map shC)]) (fun l => ∀ a ∈ l, (fun p : Int × Int => In64 p.1 ∧ In64 p.2) a) := reads_slice Tryz.underlying22 (by kernel_rfl) (by decide) (fun _ => by first | rfl | simp) rd37
theorem rd24 {H : Type} {enc : TypeId × Value → H} {w : World} {base : Nat} {spare : Nat → Bool} {held : Bool} : Reads enc Tryz.prog w base spare held 24 mdC (fun _ => True) :=
  (reads_struct (ts := [(3, 1), (3, 1), (3, 1), (3, 1)]) (by kernel_rfl) (readsF_cons rd3 (readsF_cons rd3 (readsF_cons rd3 (readsF_cons rd3 readsF_nil))))).map (fun p => ⟨p.1, p.2.1, p.2.2.1, p.2.2.2.1⟩) (fun a h => ⟨by first | rfl | simp [D.cells], trivial⟩)
theorem rd26 {H : Type} {enc : TypeId × Value → H} {w : World} {base : Nat} {spare : Nat → Bool} {held : Bool} : Reads enc Tryz.prog w base spare held 26 shC (fun _ => True) :=
  (reads_struct (ts := [(3, 1), (3, 1)]) (by kernel_rfl) (readsF_cons rd3 (readsF_cons rd3 readsF_nil))).map (fun p => (p.1, p.2.1)) (fun a h => ⟨by first | rfl | simp [D.cells], trivial⟩)
theorem rd28 {H : Type} {enc : TypeId × Value → H} {w : World} {base : Nat} {spare : Nat → Bool} {held : Bool} : Reads enc Tryz.prog w base spare held 28 arrC (fun _ => True) :=
  (reads_struct (ts := [(22, 1), (24, 4), (24, 4), (26, 2)]) (by kernel_rfl) (readsF_cons rd22 (readsF_cons rd24 (readsF_cons rd24 (readsF_cons rd26 readsF_nil))))).map (fun p => ⟨p.1, p.2.1, p.2.2.1, p.2.2.2.1⟩) (fun a h => ⟨by first | rfl | simp [D.cells], trivial⟩)
theorem rd29 {H : Type} {enc : TypeId × Value → H} {w : World} {base : Nat} {spare : Nat → Bool} {held : Bool} : Reads enc Tryz.prog w base spare held 29 (fun l : List (Int) => [.sl 1 (l.map (fun n : Int => [.v (.int .i64 n)]))]) (fun l => ∀ a ∈ l, (fun n => (Lit.int .i64 n).wf = true) a) := reads_slice Tryz.underlying29 (by kernel_rfl) (by decide) (fun _ => by first | rfl | simp) rd3
theorem rd39 {H : Type} {enc : TypeId × Value → H} {w : World} {base : Nat} {spare : Nat → Bool} {held : Bool} : Reads enc Tryz.prog w base spare held 39 flwC (fun x : Flw => FlwI x) :=
  (reads_struct (ts := [(3, 1), (37, 2), (37, 2), (3, 1), (3, 1), (3, 1)]) (by kernel_rfl) (readsF_cons rd3 (readsF_cons rd37 (readsF_cons rd37 (readsF_cons rd3 (readsF_cons rd3 (readsF_cons rd3 readsF_nil))))))).map (fun p => ⟨p.1, p.2.1, p.2.2.1, p.2.2.2.1, p.2.2.2.2.1, p.2.2.2.2.2.1⟩) (fun a h => ⟨by first | rfl | simp [D.cells], flwI_of h.2.1.1 h.2.1.2 h.2.2.1.1 h.2.2.1.2 (wf64 h.2.2.2.1) (wf64 h.2.2.2.2.1) (wf64 h.2.2.2.2.2.1)⟩)
theorem rd30 {H : Type} {enc : TypeId × Value → H} {w : World} {base : Nat} {spare : Nat → Bool} {held : Bool} : Reads enc Tryz.prog w base spare held 30 (fun l : List (Flw) => [.sl 8 (l.map flwC)]) (fun l => ∀ a ∈ l, (fun x : Flw => FlwI x) a) := reads_slice Tryz.underlying30 (by kernel_rfl) (by decide) (fun _ => by first | rfl | simp) rd39
theorem rd32 {H : Type} {enc : TypeId × Value → H} {w : World} {base : Nat} {spare : Nat → Bool} {held : Bool} : Reads enc Tryz.prog w base spare held 32 spcC (fun s : Spc => ∀ x ∈ s.fl, FlwI x) :=
  (reads_struct (ts := [(28, 11), (29, 1), (30, 1)]) (by kernel_rfl) (readsF_cons rd28 (readsF_cons rd29 (readsF_cons rd30 readsF_nil)))).map (fun p => ⟨p.1, p.2.1, p.2.2.1⟩) (fun a h => ⟨by first | rfl | simp [D.cells], h.2.2.1⟩)
theorem reads_str {H : Type} {enc : TypeId × Value → H} {P : Program} {w : World} {base : Nat} {spare : Nat → Bool} {held : Bool} {t : TypeId} (ht : P.underlying t = some .string) : Reads enc P w base spare held t (fun s : ByteArray => [.v (.string s)]) (fun s => s.size ≤ maxLen) := by
  intro fuel cs x h
  obtain ⟨s, rfl, _, hs⟩ := DataW.trod_string ht h
  exact ⟨s, hs, ⟨.v _ rfl, trivial⟩, by simp [D.sc]⟩
theorem rd9 {H : Type} {enc : TypeId × Value → H} {w : World} {base : Nat} {spare : Nat → Bool} {held : Bool} : Reads enc Tryz.prog w base spare held 9 (fun s : ByteArray => [.v (.string s)]) (fun s => s.size ≤ maxLen) := reads_str Tryz.underlying9
set_option maxRecDepth 100000 in
theorem benchTexts_lifted (os : Os) (started : os.Started) (H : Type) (enc : TypeId × Value → H) :
    ReturnsInHanded {} Tryz.checked os 3 .any (fun w args => (Rows.benchTextsSpec.pre enc Tryz.prog Tryz.f3 Rows.benchTextsRow.domain false w args ∧ laidMetH Tryz.prog listed w) ∧ sizedMet enc Tryz.prog Tryz.f3 (OpenSpec.ofChange Rows.benchTextsSpec) false w args) (Rows.benchTextsSpec.post enc Tryz.prog Tryz.f3 false true false false) := by
  refine returnsInHanded_listed (C := Tryz.checked) (X := fun w _ => laidMetH Tryz.prog listed w) laidH_heap own started (by kernel_rfl) Tryz.func3
    (ChangeSpec.witness_at (enc := enc) (C := Tryz.checked) (os := os) (X := fun w _ => laidMetH Tryz.prog listed w) false (laidWorld os) #[.agg #[.slice none 0 0, .int .i64 0, .int .i64 0, .int .i64 0, .int .i64 0, .int .i64 0, .int .i64 0, .int .i64 0, .int .i64 0, .int .i64 0, .int .i64 0, .slice none 0 0, .slice none 0 0], .string ⟨#[]⟩] 8 rfl (by kernel_rfl) (by kernel_rfl) (by kernel_rfl) (by kernel_rfl) (by kernel_rfl) (laidH_of (laidWorld_met os _))) ?_
  intro W base args ds gs before hval0 hW hshape hL hsz0
  have hval : ∀ (j : Nat) t v, Tryz.f3.params[j]? = some t → args[j]? = some v → Value.okWide Tryz.prog W .any base t v := hval0
  have hW' := hW
  obtain ⟨p, q, hA0, hV, rfl, hfz, hnd⟩ := hW
  have hA : DataW.TrodAll enc Tryz.prog W 0 (fun _ => true) true Tryz.f3.params.toList args.toList ds p := hA0
  rw [Tryz.params3] at hA hval
  obtain ⟨v0, vs0, d0, ds0, p0, q0, hargs, rfl, rfl, h0, r0⟩ := trodAll_cons hA
  obtain ⟨v1, vs1, d1, ds1, p1, q1, rfl, rfl, rfl, h1, r1⟩ := trodAll_cons r0
  obtain ⟨rfl, rfl, rfl⟩ := trodAll_nil r1
  obtain rfl : args = #[v0, v1] := by cases args; simp_all
  obtain ⟨rfl, rfl⟩ := trodVars_none hV
  have lt0 : ∀ x ∈ p0, x.block < W.heap.size := by obtain ⟨m, hm⟩ := h0; exact DataW.trod_lt m _ _ _ hm
  obtain ⟨cs0, rfl, -⟩ := okWide_struct Tryz.underlying32 (hval 0 32 v0 rfl rfl)
  obtain ⟨l0, g0, e0⟩ := arg_agg h0 rd32
  have lt1 : ∀ x ∈ p1, x.block < W.heap.size := by obtain ⟨m, hm⟩ := h1; exact DataW.trod_lt m _ _ _ hm
  obtain ⟨u1, rfl, -⟩ := open_string Tryz.underlying9 (hval 1 9 v1 rfl rfl) h1
  obtain ⟨l1, g1, e1⟩ := arg_one h1 rd9 rfl
  clear hA0 hval0
  refine ((benchTexts_p l0 l1 g0) W okAll [_, _] (gb_of_laid (laid_ofH hL) hshape) ⟨e0, e1, trivial⟩).mono fun e W' ⟨v, he, bel, hv⟩ => ?_
  obtain rfl := Rep.v_eq hv
  subst he
  exact ⟨_, rfl, _, _, _, [], _, [], hW', trodAll_mk1 (shut_bool Tryz.underlying4 _), (trodAll_cons_mk (Below.trod laidOut (by kernel_rfl) (of_decide_eq_true (by kernel_rfl)) h0 bel lt0) (trodAll_cons_mk (Below.trod laidOut (by kernel_rfl) (of_decide_eq_true (by kernel_rfl)) h1 bel lt1) trodAll_mk0)), rfl, bel.frame _, fun h => by cases h⟩
theorem benchTexts_facts : joinedFacts Tryz.prog 3 Tryz.f3 Rows.benchTextsSpec Rows.benchTextsRow = true := by kernel_rfl
theorem benchTexts_wrap : Tryz.f3.isWrapper Tryz.prog Rows.benchTextsRow.wrapper Rows.benchTextsRow.mainSum := by unfold Func.isWrapper; first | (rw [if_pos (by decide +kernel)]; kernel_rfl) | (rw [if_neg (by decide +kernel)]; exact ⟨rfl, rfl⟩)
theorem benchTexts_inst : Tryz.f3.isInstance Tryz.prog Rows.benchTextsRow.origin Rows.benchTextsRow.targs := of_decide_eq_true (by kernel_rfl)
theorem benchTexts_named : Tryz.prog.funcNamed "couplant/couplantlaw04.BenchTexts" = some 3 := by kernel_rfl
theorem benchTexts_row : Rows.BenchTextsSaid :=
  OpenClaim.holds_of_wide 3 Tryz.f3 rfl rfl rfl rfl rfl rfl rfl ⟨rfl, rfl, rfl, rfl, rfl⟩ rfl rfl rfl rfl rfl benchTexts_named Tryz.func3 benchTexts_facts benchTexts_inst benchTexts_wrap
    (fun os started H enc _ => benchTexts_lifted os started H enc)
theorem benchTexts_holds : Rows.BenchTextsCardSaid :=
  Claim7.holds_tied_plain_at .later [] [.data, .data, .data, .data, .sentinel, .sentinel, .data, .pinned] true (true, "16092638172bc6eb9727c0bbb88355c8d2eee8ebe62ea52574c92fe9a568c16c") true
    benchTexts_row (fun _ h => by cases h) (by kernel_rfl) (fun _ h => by cases h) benchTexts_row_tie rfl ⟨rfl, rfl⟩ (by kernel_rfl) rfl
    (fun f fn hf hfn => by
      obtain rfl : f = 3 := Option.some.inj (benchTexts_named.symm.trans hf) |>.symm
      obtain rfl : fn = Tryz.f3 := (Option.some.inj (Tryz.func3.symm.trans hfn)).symm
      refine ⟨by kernel_rfl, fun j t ht => ?_⟩
      rw [Tryz.params3] at ht
      have ht2 : t ∈ [32, 9] := by
        rw [List.mem_iff_getElem?]
        exact ⟨j, by simpa using ht⟩
      simp only [List.mem_cons, List.not_mem_nil, or_false] at ht2
      rcases ht2 with rfl | rfl
      · exact (show Tryz.prog.wantsStandIn 32 = false by kernel_rfl)
      · exact (show Tryz.prog.wantsStandIn 9 = false by kernel_rfl))
    (by kernel_rfl)
end Go.Proofs.YtkbdnkjjklbddaaGreatDoor
