/- Whatever the code, the boxes and the wish, TopStricter returns true, and its arguments read behind the call as before. Conditions: none but what the card ties to the text of the program (three tables). -/
import Derived.Test.YthpggoophcdgnaaDoorS17
import Derived.Test.YthpggoophcdgnaaDoorC0
import Derived.Test.YthpggoophcdgnaaDoorAmB
import Derived.Test.YthpggoophcdgnaaDoorRows
import Derived.Test.YthpggoophcdgnaaDoorCards
import Derived.Test.YthpggoophcdgnaaDoorTie
import Derived.WalkKit
import Derived.ProofKit
import Derived.OpenShut
import Derived.ShutString
import Derived.ChangeOld
import Derived.Below
import Derived.SevenTiedAt
namespace Go.Proofs.YthpggoophcdgnaaDoor
open Go Go.ChangeShapes Go.WideShapes Go.ChangeAt Go.RowKit Am Am.M
open Go.ChangeMaps (open_string shut_string)
set_option linter.unusedVariables false
set_option linter.unusedSimpArgs false
def mkOf : List Int → Mk
  | [a, b, c, d, e, f] => ⟨a, b, c, d, e, f⟩
  | _ => zMk
def bxOf : List (Int × Int) → Bx
  | [a, b, c, d, e, f] => ⟨a, b, c, d, e, f⟩
  | _ => whB
def w3Of : List Int → Int × Int × Int
  | [a, b, c] => (a, b, c)
  | _ => (0, 0, 0)
def w3C (w : Int × Int × Int) : List D := [iv w.1, iv w.2.1, iv w.2.2]
theorem mk_of {l : List Int} (h : l.length = 6) : mkC (mkOf l) = l.flatMap (fun n : Int => [.v (.int .i64 n)]) := by
  match l, h with
  | [a, b, c, d, e, f], _ => rfl
theorem bx_of {l : List (Int × Int)} (h : l.length = 6) : bxC (bxOf l) = l.flatMap rgC := by
  match l, h with
  | [a, b, c, d, e, f], _ => rfl
theorem w3_of {l : List Int} (h : l.length = 3) : w3C (w3Of l) = l.flatMap (fun n : Int => [.v (.int .i64 n)]) := by
  match l, h with
  | [a, b, c], _ => rfl
theorem reads_str {H : Type} {enc : TypeId × Value → H} {P : Program} {w : World} {base : Nat} {spare : Nat → Bool} {held : Bool} {t : TypeId} (ht : P.underlying t = some .string) : Reads enc P w base spare held t (fun s : ByteArray => [.v (.string s)]) (fun s => s.size ≤ maxLen) := by
  intro fuel cs x h
  obtain ⟨s, rfl, _, hs⟩ := DataW.trod_string ht h
  exact ⟨s, hs, ⟨.v _ rfl, trivial⟩, by simp [D.sc]⟩
theorem rd9 {H : Type} {enc : TypeId × Value → H} {w : World} {base : Nat} {spare : Nat → Bool} {held : Bool} : Reads enc Tryd.prog w base spare held 9 (fun s : ByteArray => [.v (.string s)]) (fun s => s.size ≤ maxLen) := reads_str Tryd.underlying9
theorem rd3 {H : Type} {enc : TypeId × Value → H} {w : World} {base : Nat} {spare : Nat → Bool} {held : Bool} : Reads enc Tryd.prog w base spare held 3 (fun n : Int => [.v (.int .i64 n)]) (fun n => (Lit.int .i64 n).wf = true) := reads_int Tryd.underlying3
theorem rd39 {H : Type} {enc : TypeId × Value → H} {w : World} {base : Nat} {spare : Nat → Bool} {held : Bool} : Reads enc Tryd.prog w base spare held 39 rgC (fun _ => True) :=
  (reads_struct (ts := [(3, 1), (3, 1)]) (by kernel_rfl) (readsF_cons rd3 (readsF_cons rd3 readsF_nil))).map (fun p => (p.1, p.2.1)) (fun a h => ⟨by first | rfl | simp [D.cells], trivial⟩)
theorem rd41 {H : Type} {enc : TypeId × Value → H} {w : World} {base : Nat} {spare : Nat → Bool} {held : Bool} : Reads enc Tryd.prog w base spare held 41 bxC (fun _ => True) :=
  (reads_array (s := 2) (m := 6) (e := 39) (by kernel_rfl) rd39).map bxOf (fun a h => ⟨bx_of h.1, trivial⟩)
theorem rd43 {H : Type} {enc : TypeId × Value → H} {w : World} {base : Nat} {spare : Nat → Bool} {held : Bool} : Reads enc Tryd.prog w base spare held 43 rwC (fun _ => True) :=
  (reads_struct (ts := [(41, 12), (3, 1)]) (by kernel_rfl) (readsF_cons rd41 (readsF_cons rd3 readsF_nil))).map (fun p => ⟨p.1, p.2.1⟩) (fun a h => ⟨by first | rfl | simp [D.cells], trivial⟩)
theorem rd22 {H : Type} {enc : TypeId × Value → H} {w : World} {base : Nat} {spare : Nat → Bool} {held : Bool} : Reads enc Tryd.prog w base spare held 22 (fun l : List (Rw) => [.sl 13 (l.map rwC)]) (fun l => ∀ a ∈ l, (fun _ => True) a) := reads_slice Tryd.underlying22 (by kernel_rfl) (by decide) (fun _ => by first | rfl | simp) rd43
theorem rd24 {H : Type} {enc : TypeId × Value → H} {w : World} {base : Nat} {spare : Nat → Bool} {held : Bool} : Reads enc Tryd.prog w base spare held 24 cdC (fun _ => True) :=
  (reads_struct (ts := [(9, 1), (22, 1), (22, 1)]) (by kernel_rfl) (readsF_cons rd9 (readsF_cons rd22 (readsF_cons rd22 readsF_nil)))).map (fun p => ⟨p.1, p.2.1, p.2.2.1⟩) (fun a h => ⟨by first | rfl | simp [D.cells], trivial⟩)
theorem rd25 {H : Type} {enc : TypeId × Value → H} {w : World} {base : Nat} {spare : Nat → Bool} {held : Bool} : Reads enc Tryd.prog w base spare held 25 (fun l : List (Bx) => [.sl 12 (l.map bxC)]) (fun l => ∀ a ∈ l, (fun _ => True) a) := reads_slice Tryd.underlying25 (by kernel_rfl) (by decide) (fun _ => by first | rfl | simp) rd41
theorem rd27 {H : Type} {enc : TypeId × Value → H} {w : World} {base : Nat} {spare : Nat → Bool} {held : Bool} : Reads enc Tryd.prog w base spare held 27 mkC (fun _ => True) :=
  (reads_array (s := 1) (m := 6) (e := 3) (by kernel_rfl) rd3).map mkOf (fun a h => ⟨mk_of h.1, trivial⟩)
theorem rd28 {H : Type} {enc : TypeId × Value → H} {w : World} {base : Nat} {spare : Nat → Bool} {held : Bool} : Reads enc Tryd.prog w base spare held 28 w3C (fun _ => True) :=
  (reads_array (s := 1) (m := 3) (e := 3) (by kernel_rfl) rd3).map w3Of (fun a h => ⟨w3_of h.1, trivial⟩)
theorem rd30 {H : Type} {enc : TypeId × Value → H} {w : World} {base : Nat} {spare : Nat → Bool} {held : Bool} : Reads enc Tryd.prog w base spare held 30 wiC (fun _ => True) :=
  (reads_struct (ts := [(27, 6), (28, 3)]) (by kernel_rfl) (readsF_cons rd27 (readsF_cons rd28 readsF_nil))).map (fun p => ⟨p.1, p.2.1.1, p.2.1.2.1, p.2.1.2.2⟩) (fun a h => ⟨by first | rfl | simp [D.cells], trivial⟩)
set_option maxRecDepth 100000 in
theorem topStricter_lifted (os : Os) (started : os.Started) (H : Type) (enc : TypeId × Value → H) :
    ReturnsInHanded {} Tryd.checked os 3 .any (fun w args => (Rows.topStricterSpec.pre enc Tryd.prog Tryd.f3 Rows.topStricterRow.domain false w args ∧ laidMetH Tryd.prog listed w) ∧ sizedMet enc Tryd.prog Tryd.f3 (OpenSpec.ofChange Rows.topStricterSpec) false w args) (Rows.topStricterSpec.post enc Tryd.prog Tryd.f3 false true false false) := by
  refine returnsInHanded_listed (C := Tryd.checked) (X := fun w _ => laidMetH Tryd.prog listed w) laidH_heap own started (by kernel_rfl) Tryd.func3
    (ChangeSpec.witness_at (enc := enc) (C := Tryd.checked) (os := os) (X := fun w _ => laidMetH Tryd.prog listed w) false (laidWorld os) #[.agg #[.string ⟨#[]⟩, .slice none 0 0, .slice none 0 0], .slice none 0 0, .agg #[.int .i64 0, .int .i64 0, .int .i64 0, .int .i64 0, .int .i64 0, .int .i64 0, .int .i64 0, .int .i64 0, .int .i64 0]] 8 rfl (by kernel_rfl) (by kernel_rfl) (by kernel_rfl) (by kernel_rfl) (by kernel_rfl) (laidH_of (laidWorld_met os _))) ?_
  intro W base args ds gs before hval0 hW hshape hL hsz0
  have hval : ∀ (j : Nat) t v, Tryd.f3.params[j]? = some t → args[j]? = some v → Value.okWide Tryd.prog W .any base t v := hval0
  have hW' := hW
  obtain ⟨p, q, hA0, hV, rfl, hfz, hnd⟩ := hW
  have hA : DataW.TrodAll enc Tryd.prog W 0 (fun _ => true) true Tryd.f3.params.toList args.toList ds p := hA0
  rw [Tryd.params3] at hA hval
  obtain ⟨v0, vs0, d0, ds0, p0, q0, hargs, rfl, rfl, h0, r0⟩ := trodAll_cons hA
  obtain ⟨v1, vs1, d1, ds1, p1, q1, rfl, rfl, rfl, h1, r1⟩ := trodAll_cons r0
  obtain ⟨v2, vs2, d2, ds2, p2, q2, rfl, rfl, rfl, h2, r2⟩ := trodAll_cons r1
  obtain ⟨rfl, rfl, rfl⟩ := trodAll_nil r2
  obtain rfl : args = #[v0, v1, v2] := by cases args; simp_all
  obtain ⟨rfl, rfl⟩ := trodVars_none hV
  have lt0 : ∀ x ∈ p0, x.block < W.heap.size := by obtain ⟨m, hm⟩ := h0; exact DataW.trod_lt m _ _ _ hm
  obtain ⟨cs0, rfl, -⟩ := okWide_struct Tryd.underlying24 (hval 0 24 v0 rfl rfl)
  obtain ⟨l0, g0, e0⟩ := arg_agg h0 rd24
  have lt1 : ∀ x ∈ p1, x.block < W.heap.size := by obtain ⟨m, hm⟩ := h1; exact DataW.trod_lt m _ _ _ hm
  obtain ⟨b1, len1, cap1, rfl⟩ := okWide_slice Tryd.underlying25 (hval 1 25 v1 rfl rfl)
  obtain ⟨l1, g1, e1⟩ := arg_one h1 rd25 rfl
  have lt2 : ∀ x ∈ p2, x.block < W.heap.size := by obtain ⟨m, hm⟩ := h2; exact DataW.trod_lt m _ _ _ hm
  obtain ⟨cs2, rfl, -⟩ := okWide_struct Tryd.underlying30 (hval 2 30 v2 rfl rfl)
  obtain ⟨l2, g2, e2⟩ := arg_agg h2 rd30
  clear hA0 hval0
  refine ((topStricter_p l0 l1 l2) W okAll [_, _, _] (gb_of_laid (laid_ofH hL) hshape) ⟨e0, e1, e2, trivial⟩).mono fun e W' ⟨v, he, bel, hv⟩ => ?_
  obtain rfl := Rep.v_eq hv
  subst he
  exact ⟨_, rfl, _, _, _, [], _, [], hW', trodAll_mk1 (shut_bool Tryd.underlying4 _), (trodAll_cons_mk (Below.trod laidOut (by kernel_rfl) (of_decide_eq_true (by kernel_rfl)) h0 bel lt0) (trodAll_cons_mk (Below.trod laidOut (by kernel_rfl) (of_decide_eq_true (by kernel_rfl)) h1 bel lt1) (trodAll_cons_mk (Below.trod laidOut (by kernel_rfl) (of_decide_eq_true (by kernel_rfl)) h2 bel lt2) trodAll_mk0))), rfl, bel.frame _, fun h => by cases h⟩
theorem topStricter_facts : joinedFacts Tryd.prog 3 Tryd.f3 Rows.topStricterSpec Rows.topStricterRow = true := by kernel_rfl
theorem topStricter_wrap : Tryd.f3.isWrapper Tryd.prog Rows.topStricterRow.wrapper Rows.topStricterRow.mainSum := by unfold Func.isWrapper; first | (rw [if_pos (by decide +kernel)]; kernel_rfl) | (rw [if_neg (by decide +kernel)]; exact ⟨rfl, rfl⟩)
theorem topStricter_inst : Tryd.f3.isInstance Tryd.prog Rows.topStricterRow.origin Rows.topStricterRow.targs := of_decide_eq_true (by kernel_rfl)
theorem topStricter_named : Tryd.prog.funcNamed "couplant/couplanttop.TopStricter" = some 3 := by kernel_rfl
theorem topStricter_row : Rows.TopStricterSaid :=
  OpenClaim.holds_of_wide 3 Tryd.f3 rfl rfl rfl rfl rfl rfl rfl ⟨rfl, rfl, rfl, rfl, rfl⟩ rfl rfl rfl rfl rfl topStricter_named Tryd.func3 topStricter_facts topStricter_inst topStricter_wrap
    (fun os started H enc _ => topStricter_lifted os started H enc)
theorem topStricter_holds : Rows.TopStricterCardSaid :=
  Claim7.holds_tied_plain_at .later [] [.data, .data, .data] true (true, "2b43cd780f4f096e36461178898ea692e614e321294640b45f6831bf4b5b45af") false
    topStricter_row (fun _ h => by cases h) (by kernel_rfl) (fun _ h => by cases h) topStricter_row_tie rfl ⟨rfl, rfl⟩ (by kernel_rfl) rfl
    (fun f fn hf hfn => by
      obtain rfl : f = 3 := Option.some.inj (topStricter_named.symm.trans hf) |>.symm
      obtain rfl : fn = Tryd.f3 := (Option.some.inj (Tryd.func3.symm.trans hfn)).symm
      refine ⟨by kernel_rfl, fun j t ht => ?_⟩
      rw [Tryd.params3] at ht
      have ht2 : t ∈ [24, 25, 30] := by
        rw [List.mem_iff_getElem?]
        exact ⟨j, by simpa using ht⟩
      simp only [List.mem_cons, List.not_mem_nil, or_false] at ht2
      rcases ht2 with rfl | rfl | rfl
      · exact (show Tryd.prog.wantsStandIn 24 = false by kernel_rfl)
      · exact (show Tryd.prog.wantsStandIn 25 = false by kernel_rfl)
      · exact (show Tryd.prog.wantsStandIn 30 = false by kernel_rfl))
    (by kernel_rfl)
end Go.Proofs.YthpggoophcdgnaaDoor
