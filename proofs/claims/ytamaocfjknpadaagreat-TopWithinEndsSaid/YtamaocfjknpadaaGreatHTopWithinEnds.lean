/- Whatever the task, the cell and the noise, TopWithinEnds returns true, and its arguments read behind the call as before. Conditions: none. -/
import Derived.Test.YtamaocfjknpadaaGreatJ4
import Derived.Test.YtamaocfjknpadaaGreatAmC
import Derived.Test.YtamaocfjknpadaaGreatRows
import Derived.Test.YtamaocfjknpadaaGreatJL
import Derived.WalkKit
import Derived.ProofKit
import Derived.OpenShut
import Derived.ShutString
import Derived.ChangeOld
import Derived.Below
import Derived.Leaving
import Derived.Conc.Holds
namespace Go.Proofs.YtamaocfjknpadaaGreat
open Go Go.ChangeShapes Go.WideShapes Go.ChangeAt Go.RowKit Am Am.M
open Go.ChangeMaps (open_string shut_string)
set_option linter.unusedVariables false
set_option linter.unusedSimpArgs false
theorem own : ownKnob Tryz.prog.godebug = none := by kernel_rfl
theorem laidOut : laidOutB Tryz.prog = true := by kernel_rfl
theorem rd3 {H : Type} {enc : TypeId × Value → H} {w : World} {base : Nat} {spare : Nat → Bool} {held : Bool} : Reads enc Tryz.prog w base spare held 3 (fun n : Int => [.v (.int .i64 n)]) (fun n => (Lit.int .i64 n).wf = true) := reads_int Tryz.underlying3
theorem rd33 {H : Type} {enc : TypeId × Value → H} {w : World} {base : Nat} {spare : Nat → Bool} {held : Bool} : Reads enc Tryz.prog w base spare held 33 shC (fun _ => True) :=
  (reads_struct (ts := [(3, 1), (3, 1)]) (by kernel_rfl) (readsF_cons rd3 (readsF_cons rd3 readsF_nil))).map (fun p => (p.1, p.2.1)) (fun a h => ⟨by first | rfl | simp [D.cells], trivial⟩)
theorem rd22 {H : Type} {enc : TypeId × Value → H} {w : World} {base : Nat} {spare : Nat → Bool} {held : Bool} : Reads enc Tryz.prog w base spare held 22 (fun l : List (Int × Int) => [.sl 2 (l.map shC)]) (fun l => ∀ a ∈ l, (fun _ => True) a) := reads_slice Tryz.underlying22 (by kernel_rfl) (by decide) (fun _ => by first | rfl | simp) rd33
theorem rd24 {H : Type} {enc : TypeId × Value → H} {w : World} {base : Nat} {spare : Nat → Bool} {held : Bool} : Reads enc Tryz.prog w base spare held 24 mdC (fun _ => True) :=
  (reads_struct (ts := [(3, 1), (3, 1), (3, 1), (3, 1)]) (by kernel_rfl) (readsF_cons rd3 (readsF_cons rd3 (readsF_cons rd3 (readsF_cons rd3 readsF_nil))))).map (fun p => ⟨p.1, p.2.1, p.2.2.1, p.2.2.2.1⟩) (fun a h => ⟨by first | rfl | simp [D.cells], trivial⟩)
theorem rd26 {H : Type} {enc : TypeId × Value → H} {w : World} {base : Nat} {spare : Nat → Bool} {held : Bool} : Reads enc Tryz.prog w base spare held 26 shC (fun _ => True) :=
  (reads_struct (ts := [(3, 1), (3, 1)]) (by kernel_rfl) (readsF_cons rd3 (readsF_cons rd3 readsF_nil))).map (fun p => (p.1, p.2.1)) (fun a h => ⟨by first | rfl | simp [D.cells], trivial⟩)
theorem rd28 {H : Type} {enc : TypeId × Value → H} {w : World} {base : Nat} {spare : Nat → Bool} {held : Bool} : Reads enc Tryz.prog w base spare held 28 arrC (fun _ => True) :=
  (reads_struct (ts := [(22, 1), (24, 4), (24, 4), (26, 2)]) (by kernel_rfl) (readsF_cons rd22 (readsF_cons rd24 (readsF_cons rd24 (readsF_cons rd26 readsF_nil))))).map (fun p => ⟨p.1, p.2.1, p.2.2.1, p.2.2.2.1⟩) (fun a h => ⟨by first | rfl | simp [D.cells], trivial⟩)
theorem rd117 {H : Type} {enc : TypeId × Value → H} {w : World} {base : Nat} {spare : Nat → Bool} {held : Bool} : Reads enc Tryz.prog w base spare held 117 (fun b : Nat => [.v (.float .f32 b)]) (fun b => (Lit.float .f32 b).wf = true) := reads_float Tryz.underlying117
theorem rd29 {H : Type} {enc : TypeId × Value → H} {w : World} {base : Nat} {spare : Nat → Bool} {held : Bool} : Reads enc Tryz.prog w base spare held 29 (fun l : List (Nat) => [.sl 1 (l.map (fun b : Nat => [.v (.float .f32 b)]))]) (fun l => ∀ a ∈ l, (fun b => (Lit.float .f32 b).wf = true) a) := reads_slice Tryz.underlying29 (by kernel_rfl) (by decide) (fun _ => by first | rfl | simp) rd117
theorem rd31 {H : Type} {enc : TypeId × Value → H} {w : World} {base : Nat} {spare : Nat → Bool} {held : Bool} : Reads enc Tryz.prog w base spare held 31 (fun m : Int × List Nat => mtxC m.1 m.2) (fun _ => True) :=
  (reads_struct (ts := [(3, 1), (29, 1)]) (by kernel_rfl) (readsF_cons rd3 (readsF_cons rd29 readsF_nil))).map (fun p => (p.1, p.2.1)) (fun a h => ⟨by first | rfl | simp [D.cells], trivial⟩)
theorem rd35 {H : Type} {enc : TypeId × Value → H} {w : World} {base : Nat} {spare : Nat → Bool} {held : Bool} : Reads enc Tryz.prog w base spare held 35 grdC (fun _ => True) :=
  (reads_struct (ts := [(33, 2), (3, 1), (3, 1), (3, 1)]) (by kernel_rfl) (readsF_cons rd33 (readsF_cons rd3 (readsF_cons rd3 (readsF_cons rd3 readsF_nil))))).map (fun p => ⟨p.1.1, p.1.2, p.2.1, p.2.2.1, p.2.2.2.1⟩) (fun a h => ⟨by first | rfl | simp [D.cells], trivial⟩)
theorem rd37 {H : Type} {enc : TypeId × Value → H} {w : World} {base : Nat} {spare : Nat → Bool} {held : Bool} : Reads enc Tryz.prog w base spare held 37 tskC (fun _ => True) :=
  (reads_struct (ts := [(28, 11), (31, 2), (35, 5)]) (by kernel_rfl) (readsF_cons rd28 (readsF_cons rd31 (readsF_cons rd35 readsF_nil)))).map (fun p => ⟨p.1, p.2.1.1, p.2.1.2, p.2.2.1⟩) (fun a h => ⟨by first | rfl | simp [D.cells], trivial⟩)
theorem rd63 {H : Type} {enc : TypeId × Value → H} {w : World} {base : Nat} {spare : Nat → Bool} {held : Bool} : Reads enc Tryz.prog w base spare held 63 shC (fun _ => True) :=
  (reads_array (s := 1) (m := 2) (e := 3) (by kernel_rfl) rd3).map (fun l => (l.getD 0 0, l.getD 1 0)) (fun a h => ⟨by match a, h.1 with | [x, y], _ => rfl, trivial⟩)
set_option maxRecDepth 100000 in
theorem topWithinEnds_lifted (os : Os) (started : os.Started) (H : Type) (enc : TypeId × Value → H) :
    ReturnsInHanded {} Tryz.checked os 15 .any (Rows.topWithinEndsSpec.pre6 enc Tryz.prog Tryz.f15 Rows.topWithinEndsRow.domain false) (Rows.topWithinEndsSpec.post enc Tryz.prog Tryz.f15 false true false false) := by
  refine returnsInHanded_of_change (C := Tryz.checked) own started (by kernel_rfl) Tryz.func15
    (ChangeSpec.witness6 (enc := enc) (C := Tryz.checked) false ⟨#[], #[.agg #[.slice none 0 0, .int .i64 0, .int .i64 0, .int .i64 0, .int .i64 0, .int .i64 0, .int .i64 0, .int .i64 0, .int .i64 0, .int .i64 0, .int .i64 0, .int .i64 0, .slice none 0 0, .int .i64 0, .int .i64 0, .int .i64 0, .int .i64 0, .int .i64 0], .int .i64 0, .agg #[.int .i64 0, .int .i64 0]], []⟩ 8 (by kernel_rfl) (by kernel_rfl) (by kernel_rfl) (by kernel_rfl)) ?_
  intro W base args ds gs before hval0 hW hcnd _
  have hval : ∀ (j : Nat) t v, Tryz.f15.params[j]? = some t → args[j]? = some v → Value.okWide Tryz.prog W .any base t v := hval0
  have hW' := hW
  obtain ⟨p, q, hA0, hV, rfl, hfz, hnd⟩ := hW
  have hA : DataW.TrodAll enc Tryz.prog W 0 (fun _ => true) true Tryz.f15.params.toList args.toList ds p := hA0
  rw [Tryz.params15] at hA hval
  obtain ⟨v0, vs0, d0, ds0, p0, q0, hargs, rfl, rfl, h0, r0⟩ := trodAll_cons hA
  obtain ⟨v1, vs1, d1, ds1, p1, q1, rfl, rfl, rfl, h1, r1⟩ := trodAll_cons r0
  obtain ⟨v2, vs2, d2, ds2, p2, q2, rfl, rfl, rfl, h2, r2⟩ := trodAll_cons r1
  obtain ⟨rfl, rfl, rfl⟩ := trodAll_nil r2
  obtain rfl : args = #[v0, v1, v2] := by cases args; simp_all
  obtain ⟨rfl, rfl⟩ := trodVars_none hV
  have lt0 : ∀ x ∈ p0, x.block < W.heap.size := by obtain ⟨m, hm⟩ := h0; exact DataW.trod_lt m _ _ _ hm
  obtain ⟨cs0, rfl, -⟩ := okWide_struct Tryz.underlying37 (hval 0 37 v0 rfl rfl)
  obtain ⟨l0, g0, e0⟩ := arg_agg h0 rd37
  have lt1 : ∀ x ∈ p1, x.block < W.heap.size := by obtain ⟨m, hm⟩ := h1; exact DataW.trod_lt m _ _ _ hm
  obtain ⟨u1, rfl, -⟩ := open_int Tryz.underlying3 (hval 1 3 v1 rfl rfl) h1
  obtain ⟨l1, g1, e1⟩ := arg_one h1 rd3 rfl
  have lt2 : ∀ x ∈ p2, x.block < W.heap.size := by obtain ⟨m, hm⟩ := h2; exact DataW.trod_lt m _ _ _ hm
  obtain ⟨cs2, rfl⟩ := okWide_arr Tryz.underlying63 (hval 2 63 v2 rfl rfl)
  obtain ⟨l2, g2, e2⟩ := arg_agg h2 rd63
  clear hA0 hval0
  refine ((topWithin_p l0 l1 l2) W okAll [_, _, _] ⟨e0, e1, e2, trivial⟩).mono fun e W' ⟨v, he, bel, hv⟩ => ?_
  obtain rfl := Rep.v_eq hv
  subst he
  exact ⟨_, rfl, _, _, _, [], _, [], hW', trodAll_mk1 (shut_bool Tryz.underlying4 _), (trodAll_cons_mk (Below.trod laidOut (by kernel_rfl) (of_decide_eq_true (by kernel_rfl)) h0 bel lt0) (trodAll_cons_mk (Below.trod laidOut (by kernel_rfl) (of_decide_eq_true (by kernel_rfl)) h1 bel lt1) (trodAll_cons_mk (Below.trod laidOut (by kernel_rfl) (of_decide_eq_true (by kernel_rfl)) h2 bel lt2) trodAll_mk0))), rfl, bel.frame _, fun h => by cases h⟩
theorem topWithinEnds_left (os : Os) (started : os.Started) (H : Type) (enc : TypeId × Value → H) :
    ReturnsInLeavingWide {} Tryz.checked os 15 .any (Rows.topWithinEndsSpec.pre6 enc Tryz.prog Tryz.f15 Rows.topWithinEndsRow.domain false) (Rows.topWithinEndsSpec.post enc Tryz.prog Tryz.f15 false true false false) :=
  leaving_of_handed (topWithinEnds_lifted os started H enc)
theorem topWithinEnds_j0 : (fun (P : Program) (f : FuncId) (fn : Func) (s : ChangeSpec) (c : OpenClaim) => c.wf (OpenSpec.ofChange s)) Tryz.pinned.checked.prog 15 Tryz.f15 Rows.topWithinEndsSpec Rows.topWithinEndsRow = true := by kernel_rfl
theorem topWithinEnds_j3 : (fun (P : Program) (f : FuncId) (fn : Func) (s : ChangeSpec) (c : OpenClaim) => fn.params.all (P.readableRec ·)) Tryz.pinned.checked.prog 15 Tryz.f15 Rows.topWithinEndsSpec Rows.topWithinEndsRow = true := by kernel_rfl
theorem topWithinEnds_j4 : (fun (P : Program) (f : FuncId) (fn : Func) (s : ChangeSpec) (c : OpenClaim) => namedTie P c.named s.vars) Tryz.pinned.checked.prog 15 Tryz.f15 Rows.topWithinEndsSpec Rows.topWithinEndsRow = true := by kernel_rfl
theorem topWithinEnds_j5 : (fun (P : Program) (f : FuncId) (fn : Func) (s : ChangeSpec) (c : OpenClaim) => (c.stops == [])) Tryz.pinned.checked.prog 15 Tryz.f15 Rows.topWithinEndsSpec Rows.topWithinEndsRow = true := by kernel_rfl
theorem topWithinEnds_j7 : (fun (P : Program) (f : FuncId) (fn : Func) (s : ChangeSpec) (c : OpenClaim) => (c.knobs == [])) Tryz.pinned.checked.prog 15 Tryz.f15 Rows.topWithinEndsSpec Rows.topWithinEndsRow = true := by kernel_rfl
theorem topWithinEnds_j9 : (fun (P : Program) (f : FuncId) (fn : Func) (s : ChangeSpec) (c : OpenClaim) => (c.inPlace == P.inPlace f)) Tryz.pinned.checked.prog 15 Tryz.f15 Rows.topWithinEndsSpec Rows.topWithinEndsRow = true := by kernel_rfl
theorem topWithinEnds_j10 : (fun (P : Program) (f : FuncId) (fn : Func) (s : ChangeSpec) (c : OpenClaim) => (c.unfollowed == P.unfollowed f)) Tryz.pinned.checked.prog 15 Tryz.f15 Rows.topWithinEndsSpec Rows.topWithinEndsRow = true := by kernel_rfl
theorem topWithinEnds_j11 : (fun (P : Program) (f : FuncId) (fn : Func) (s : ChangeSpec) (c : OpenClaim) => (c.recurses == P.recurses f)) Tryz.pinned.checked.prog 15 Tryz.f15 Rows.topWithinEndsSpec Rows.topWithinEndsRow = true := by kernel_rfl
theorem topWithinEnds_j12 : (fun (P : Program) (f : FuncId) (fn : Func) (s : ChangeSpec) (c : OpenClaim) => (c.named == P.varsNamed f)) Tryz.pinned.checked.prog 15 Tryz.f15 Rows.topWithinEndsSpec Rows.topWithinEndsRow = true := by kernel_rfl
theorem topWithinEnds_j13 : (fun (P : Program) (f : FuncId) (fn : Func) (s : ChangeSpec) (c : OpenClaim) => (c.maps == (fn.params.toList ++ s.plain.varTypes P).any (P.mapsRec ·))) Tryz.pinned.checked.prog 15 Tryz.f15 Rows.topWithinEndsSpec Rows.topWithinEndsRow = true := by kernel_rfl
theorem topWithinEnds_j14 : (fun (P : Program) (f : FuncId) (fn : Func) (s : ChangeSpec) (c : OpenClaim) => (c.ifaces == (fn.params.toList ++ s.plain.varTypes P).any (P.ifacesRec ·))) Tryz.pinned.checked.prog 15 Tryz.f15 Rows.topWithinEndsSpec Rows.topWithinEndsRow = true := by kernel_rfl
theorem topWithinEnds_j15 : (fun (P : Program) (f : FuncId) (fn : Func) (s : ChangeSpec) (c : OpenClaim) => (c.mapsOut == P.mapsAmong fn.resultTypes.toList)) Tryz.pinned.checked.prog 15 Tryz.f15 Rows.topWithinEndsSpec Rows.topWithinEndsRow = true := by kernel_rfl
theorem topWithinEnds_j16 : (fun (P : Program) (f : FuncId) (fn : Func) (s : ChangeSpec) (c : OpenClaim) => (c.loops == (fn.params.toList ++ s.plain.varTypes P).any (P.loopsFrom ·))) Tryz.pinned.checked.prog 15 Tryz.f15 Rows.topWithinEndsSpec Rows.topWithinEndsRow = true := by kernel_rfl
theorem topWithinEnds_j17 : (fun (P : Program) (f : FuncId) (fn : Func) (s : ChangeSpec) (c : OpenClaim) => (c.wideKeys == (fn.params.toList ++ s.plain.varTypes P ++ fn.resultTypes.toList).any (P.wideKeysFrom ·))) Tryz.pinned.checked.prog 15 Tryz.f15 Rows.topWithinEndsSpec Rows.topWithinEndsRow = true := by kernel_rfl
theorem topWithinEnds_j18 : (fun (P : Program) (f : FuncId) (fn : Func) (s : ChangeSpec) (c : OpenClaim) => s.vars.all (P.varReadable ·)) Tryz.pinned.checked.prog 15 Tryz.f15 Rows.topWithinEndsSpec Rows.topWithinEndsRow = true := by kernel_rfl
theorem topWithinEnds_j19 : (fun (P : Program) (f : FuncId) (fn : Func) (s : ChangeSpec) (c : OpenClaim) => fn.resultTypes.all (fun t => P.readableRec t && decide (t < P.types.size))) Tryz.pinned.checked.prog 15 Tryz.f15 Rows.topWithinEndsSpec Rows.topWithinEndsRow = true := by kernel_rfl
theorem topWithinEnds_j20 : (fun (P : Program) (f : FuncId) (fn : Func) (s : ChangeSpec) (c : OpenClaim) => (c.ifacesOut == fn.resultTypes.toList.any (P.ifacesRec ·))) Tryz.pinned.checked.prog 15 Tryz.f15 Rows.topWithinEndsSpec Rows.topWithinEndsRow = true := by kernel_rfl
theorem topWithinEnds_j21 : (fun (P : Program) (f : FuncId) (fn : Func) (s : ChangeSpec) (c : OpenClaim) => (c.loopsOut == fn.resultTypes.toList.any (P.loopsFrom ·))) Tryz.pinned.checked.prog 15 Tryz.f15 Rows.topWithinEndsSpec Rows.topWithinEndsRow = true := by kernel_rfl
theorem topWithinEnds_j22 : (fun (P : Program) (f : FuncId) (fn : Func) (s : ChangeSpec) (c : OpenClaim) => (c.plainKeys == P.plainKeys)) Tryz.pinned.checked.prog 15 Tryz.f15 Rows.topWithinEndsSpec Rows.topWithinEndsRow = true := by show (Rows.topWithinEndsRow.plainKeys == Tryz.pinned.checked.prog.plainKeys) = true; rw [jl_plainKeys]; rfl
theorem topWithinEnds_j23 : (fun (P : Program) (f : FuncId) (fn : Func) (s : ChangeSpec) (c : OpenClaim) => c.shortTexts.isNone) Tryz.pinned.checked.prog 15 Tryz.f15 Rows.topWithinEndsSpec Rows.topWithinEndsRow = true := by kernel_rfl
theorem topWithinEnds_j26 : (fun (P : Program) (f : FuncId) (fn : Func) (s : ChangeSpec) (c : OpenClaim) => (c.lifted == P.liftsFinal)) Tryz.pinned.checked.prog 15 Tryz.f15 Rows.topWithinEndsSpec Rows.topWithinEndsRow = true := by show (Rows.topWithinEndsRow.lifted == Tryz.pinned.checked.prog.liftsFinal) = true; rw [jl_liftsFinal]; rfl
theorem topWithinEnds_j27 : (fun (P : Program) (f : FuncId) (fn : Func) (s : ChangeSpec) (c : OpenClaim) => (P.make == some c.make)) Tryz.pinned.checked.prog 15 Tryz.f15 Rows.topWithinEndsSpec Rows.topWithinEndsRow = true := by show (Tryz.pinned.checked.prog.make == some Rows.topWithinEndsRow.make) = true; rw [jl_make]; rfl
theorem topWithinEnds_j28 : Rows.topWithinEndsRow.kinds = [] := by kernel_rfl
theorem topWithinEnds_jd : Rows.topWithinEndsRow.domain.isEmpty = true := by kernel_rfl
theorem topWithinEnds_j29 : (fun (P : Program) (f : FuncId) (fn : Func) (s : ChangeSpec) (c : OpenClaim) => (c.pinned == c.pinnedBy)) Tryz.pinned.checked.prog 15 Tryz.f15 Rows.topWithinEndsSpec Rows.topWithinEndsRow = true := by kernel_rfl
theorem topWithinEnds_j30 : (fun (P : Program) (f : FuncId) (fn : Func) (s : ChangeSpec) (c : OpenClaim) => (c.veiled == (fn.params.toList ++ s.plain.varTypes P ++ fn.resultTypes.toList).any (P.veiledRec ·))) Tryz.pinned.checked.prog 15 Tryz.f15 Rows.topWithinEndsSpec Rows.topWithinEndsRow = true := by kernel_rfl
theorem topWithinEnds_j31 : (fun (P : Program) (f : FuncId) (fn : Func) (s : ChangeSpec) (c : OpenClaim) => c.veiledFits P fn.params.toList (fn.params.toList ++ s.plain.varTypes P ++ fn.resultTypes.toList)) Tryz.pinned.checked.prog 15 Tryz.f15 Rows.topWithinEndsSpec Rows.topWithinEndsRow = true := by kernel_rfl
theorem topWithinEnds_joined : joinedFacts Tryz.pinned.checked.prog 15 Tryz.f15 Rows.topWithinEndsSpec Rows.topWithinEndsRow = true :=
  joined_of topWithinEnds_j0 jl_1 jl_2 topWithinEnds_j3 topWithinEnds_j4 topWithinEnds_j5 jl_6 topWithinEnds_j7 jl_8 topWithinEnds_j9 topWithinEnds_j10 topWithinEnds_j11 topWithinEnds_j12 topWithinEnds_j13 topWithinEnds_j14 topWithinEnds_j15 topWithinEnds_j16 topWithinEnds_j17 topWithinEnds_j18 topWithinEnds_j19 topWithinEnds_j20 topWithinEnds_j21 topWithinEnds_j22 topWithinEnds_j23 jl_24 jl_25 topWithinEnds_j26 topWithinEnds_j27 topWithinEnds_j28 topWithinEnds_jd topWithinEnds_j29 topWithinEnds_j30 topWithinEnds_j31
theorem topWithinEnds_holds : Rows.TopWithinEndsSaid :=
  OpenClaim.holds_of_wide_leaving 15 Tryz.f15 rfl rfl rfl rfl rfl rfl rfl ⟨rfl, rfl, rfl, rfl, rfl⟩ rfl rfl rfl rfl rfl (by kernel_rfl) Tryz.func15 topWithinEnds_joined
    (of_decide_eq_true (by kernel_rfl)) (by unfold Func.isWrapper; first | (rw [if_pos (by decide +kernel)]; kernel_rfl) | (rw [if_neg (by decide +kernel)]; exact ⟨rfl, rfl⟩))
    (fun os started H enc _ => topWithinEnds_left os started H enc)
end Go.Proofs.YtamaocfjknpadaaGreat
